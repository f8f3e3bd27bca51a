/- Laws, on plain data, about functions that the statement reaches. -/
import Derived.Test.YthaajlepgblimaaDoorL1
set_option linter.unusedSimpArgs false
set_option linter.unusedVariables false
set_option linter.unnecessarySimpa false
set_option maxRecDepth 100000
namespace Go.Proofs.YthaajlepgblimaaDoor
open Go.Eng Go.Pi
open Option (bind_some)
theorem s1043g (e : Ev) (h : Hp) (hsrt : ∀ p : Hp, ∃ d' h', R fn1052 [e.fd] p = some (.tup [d', .int .i64 (sortF e.fs).1], h') ∧ p.length ≤ h'.length ∧ (∀ q, q < p.length → h'[q]? = p[q]?) ∧ ((sortF e.fs).1 = 0 → RdF h' (sortF e.fs).2 d')) : R fn1043 [.agg (evr e)] h = some (.int .i64 (evE e), h) := by
 suffices Wp (R fn1043 [.agg (evr e)] h) (fun p => p = (.int .i64 (evE e), h)) by
  obtain ⟨p, h1, rfl⟩ := this
  exact h1
 have sc : ∀ (g : Hp) (v : Int), h.length ≤ g.length → (∀ q, q < h.length → g[q]? = h[q]?) → scope h g (.int .i64 v) = some (.int .i64 v, h) := fun g v h1 h2 => scope_eq (by simp) (.int _ _) h1 h2
 have k1 := s1051 e.a5 0 253402300799999 h
 rw [e1043]
 simp only [F1043, pBoxF_agg, bs, Option.bind_assoc, evL, s1047, mkRes_one]
 have q5 : dFieldAddr tab ty31 5 (.fptr (evr e)) = some (.fptr [.int .i64 e.a5, .int .i64 e.a6, .str e.s7, .str e.s8, e.fd]) := id rfl
 have q6 : dFieldAddr tab ty31 6 (.fptr (evr e)) = some (.fptr [.int .i64 e.a6, .str e.s7, .str e.s8, e.fd]) := id rfl
 have q7 : dFieldAddr tab ty31 7 (.fptr (evr e)) = some (.fptr [.str e.s7, .str e.s8, e.fd]) := id rfl
 have q8 : dFieldAddr tab ty31 8 (.fptr (evr e)) = some (.fptr [.str e.s8, e.fd]) := id rfl
 have q9 : dFieldAddr tab ty31 9 (.fptr (evr e)) = some (.fptr [e.fd]) := id rfl
 unfold evE
 generalize hb1 : plB e = b1
 generalize hb2 : (decide (0 ≤ e.a5) && decide (e.a5 ≤ 253402300799999)) = b2 at k1 ⊢
 have first : ∀ {β : Type} (f : D → D × Hp → D → Option β) (Q : β → Prop), (∀ x p t, p.2 = h → t = .bool (!b1 || !b2) → Wp (f x p t) Q) → Wp ((dUn .not (.bool b1)).bind fun t9 => (gd t9 false (some (.fptr [.int .i64 e.a5, .int .i64 e.a6, .str e.s7, .str e.s8, e.fd]))).bind fun t11 => (gd t9 false (dLoad tab h ty3 t11)).bind fun t12 => (gdW t9 false h (R fn1051 [t12, .int .i64 0, .int .i64 253402300799999] h)).bind fun p13 => (gd t9 false (dUn .not p13.1)).bind fun t14 => (dPick t9 (.bool true) t14).bind fun t15 => f t9 p13 t15) Q := fun f Q hk => by
  cases b1
  ·simp only [dUn_not, Bool.not_false, bs, gd_bool, gdW_bool, reduceCtorEq, if_false, dPick_bool, if_true]
   exact hk _ _ _ rfl rfl
  ·simp only [dUn_not, Bool.not_true, bs, gd_bool, gdW_bool, if_true, ld3, k1, dPick_bool, Bool.false_eq_true, if_false]
   exact hk _ _ _ rfl (by simp)
 simp only [q5, q6, q7, q8, q9]
 refine first _ _ fun x p t hp ht => ?_
 subst ht
 obtain ⟨px, p⟩ := p
 simp only at hp
 subst hp
 clear first
 simp only [dIf_bool]
 by_cases c1 : (!b1 || !b2) = true
 ·simp only [c1, if_true, sc _ _ (Nat.le_refl _) (fun _ _ => rfl)]
  exact .some rfl
 simp only [c1, if_false, Bool.false_eq_true, ld3, ld9, ld29, bs, dBin_lss, len9, dBin_gtr, dBin_rem, dBin_neq]
 by_cases c2 : e.a6 < 1
 ·simp only [c2, true_or, decide_true, if_true, gd_bool, reduceCtorEq, if_false, Bool.true_eq_false, bs, dPick_bool, dIf_bool, sc _ _ (Nat.le_refl _) (fun _ _ => rfl)]
  exact .some rfl
 have c20 : ¬ e.a6 = 0 := by omega
 by_cases c3n : ¬ Int.tmod 5040 e.a6 = 0
 ·have c3 := c3n
  simp only [c2, c20, c3, ne_eq, not_false_eq_true, or_true, decide_true, decide_false, if_true, gd_bool, if_false, Bool.false_eq_true, bs, dPick_bool, dIf_bool, ld3, dBin_rem, dBin_neq, sc _ _ (Nat.le_refl _) (fun _ _ => rfl)]
  exact .some rfl
 have c3 : Int.tmod 5040 e.a6 = 0 := Decidable.not_not.1 c3n
 simp only [c2, c20, c3, ne_eq, not_true, or_self, decide_false, if_true, gd_bool, if_false, Bool.false_eq_true, bs, dPick_bool, dIf_bool, ld3, dBin_rem, dBin_neq, s1048]
 generalize hL : linesE e 2000 = L
 by_cases c4n : ¬ L = 0
 ·have c4 := c4n
  simp only [c4, ne_eq, not_false_eq_true, decide_true, if_true, sc _ _ (Nat.le_refl _) (fun _ _ => rfl)]
  exact .some rfl
 have c4 : L = 0 := Decidable.not_not.1 c4n
 subst c4
 simp only [ne_eq, not_true, decide_false, Bool.false_eq_true, if_false, if_true]
 by_cases c5 : 32 < e.s7.length
 ·have c5' : (32 : Int) < (e.s7.length : Int) := by omega
  simp only [c5, c5', true_or, decide_true, if_true, gd_bool, reduceCtorEq, if_false, Bool.true_eq_false, bs, dPick_bool, dIf_bool, sc _ _ (Nat.le_refl _) (fun _ _ => rfl)]
  exact .some rfl
 have c5' : ¬ (32 : Int) < (e.s7.length : Int) := by omega
 by_cases c6 : 32 < e.s8.length
 ·have c6' : (32 : Int) < (e.s8.length : Int) := by omega
  simp only [c5, c5', c6, c6', or_true, decide_true, decide_false, if_true, gd_bool, if_false, Bool.false_eq_true, bs, ld9, len9, dBin_gtr, dPick_bool, sc _ _ (Nat.le_refl _) (fun _ _ => rfl)]
  exact .some rfl
 have c6' : ¬ (32 : Int) < (e.s8.length : Int) := by omega
 obtain ⟨d', h', hs, hl', hb', hr'⟩ := hsrt p
 simp only [c5, c5', c6, c6', or_self, decide_false, if_true, gd_bool, if_false, Bool.false_eq_true, bs, ld9, len9, dBin_gtr, dPick_bool, dIf_bool, hs, dExtract_tup, List.getElem?_cons_zero, List.getElem?_cons_succ]
 have hsl := sortF_32 e.fs
 generalize hS : sortF e.fs = S at hs hr' hsl
 obtain ⟨v, s⟩ := S
 simp only at hr' hsl ⊢
 by_cases c7n : ¬ v = 0
 ·have c7 := c7n
  simp only [c7, ne_eq, not_false_eq_true, decide_true, if_true, sc _ _ hl' hb', dIf_bool, dBin_neq, bs]
  exact .some rfl
 have c7 : v = 0 := Decidable.not_not.1 c7n
 subst c7
 have hr := hr' rfl
 have hfd : RdF h' e.fs e.fd := .inl e.hfd
 simp only [ne_eq, not_true, decide_false, Bool.false_eq_true, if_false, dIf_bool, dBin_neq, s1053 s e.fs d' e.fd h' hr hfd (by omega), bs, dUn_not, s1054 s d' h' hr (by omega)]
 by_cases c8n : ¬ s = e.fs
 ·have c8 := c8n
  simp only [c8, not_false_eq_true, decide_false, Bool.not_false, if_true, sc _ _ hl' hb', dIf_bool, dBin_neq, bs]
  exact .some rfl
 have c8 : s = e.fs := Decidable.not_not.1 c8n
 subst c8
 simp only [not_true, decide_true, Bool.not_true, if_false, Bool.false_eq_true, sc _ _ hl' hb', dIf_bool, dBin_neq, bs]
 split
 ·exact .some rfl
 ·exact .some rfl
def itE (i : It) : Int :=
 if i.r = [] then evE i.e
 else if 32 < i.r.length then 3
 else if plB i.e = false then 2
 else if linesE i.e 60000 = 9 ∨ linesE i.e 60000 = 4 ∨ linesE i.e 60000 = 19 then linesE i.e 60000
 else if i.e.a5 ≠ 0 ∨ i.e.a6 ≠ 0 ∨ i.e.s7 ≠ [] ∨ i.e.s8 ≠ [] ∨ i.e.fs.length ≠ 0 ∨ (i.e.ls.any fun p => !(p.txt == [])) = true then 19 else 0
theorem s1042g (i : It) (h : Hp) (hc : R fn1043 [.agg (evr i.e)] h = some (.int .i64 (evE i.e), h)) : R fn1042 [.agg (itr i)] h = some (.int .i64 (itE i), h) := by
 have hbx : boxN 10 (.agg (evr i.e)) = some (.fptr (evr i.e)) := boxN_agg 10 _ rfl
 have q4 : dFieldAddr tab ty31 4 (.fptr (evr i.e)) = some (.fptr [i.e.ld, .int .i64 i.e.a5, .int .i64 i.e.a6, .str i.e.s7, .str i.e.s8, i.e.fd]) := id rfl
 have q5 : dFieldAddr tab ty31 5 (.fptr (evr i.e)) = some (.fptr [.int .i64 i.e.a5, .int .i64 i.e.a6, .str i.e.s7, .str i.e.s8, i.e.fd]) := id rfl
 have q6 : dFieldAddr tab ty31 6 (.fptr (evr i.e)) = some (.fptr [.int .i64 i.e.a6, .str i.e.s7, .str i.e.s8, i.e.fd]) := id rfl
 have q7 : dFieldAddr tab ty31 7 (.fptr (evr i.e)) = some (.fptr [.str i.e.s7, .str i.e.s8, i.e.fd]) := id rfl
 have q8 : dFieldAddr tab ty31 8 (.fptr (evr i.e)) = some (.fptr [.str i.e.s8, i.e.fd]) := id rfl
 have q9 : dFieldAddr tab ty31 9 (.fptr (evr i.e)) = some (.fptr [i.e.fd]) := id rfl
 rw [e1042]
 simp only [F1042, pBoxF_agg, bs, itF0, itF1, itL0, evL, hbx, dBin_seql, mkRes_one]
 unfold itE
 by_cases c0 : i.r = []
 ·simp only [c0, beq_self_eq_true, dIf_bool, if_true, hc, bs]
 have c0' : (i.r == []) = false := by simpa using c0
 simp only [c0, c0', dIf_bool, Bool.false_eq_true, if_false, len9, bs, dBin_gtr]
 by_cases c1 : 32 < i.r.length
 ·have c1' : (32 : Int) < (i.r.length : Int) := by omega
  simp only [c1, c1', decide_true, if_true]
 have c1' : ¬ (32 : Int) < (i.r.length : Int) := by omega
 simp only [c1, c1', decide_false, Bool.false_eq_true, if_false, s1047, bs, dUn_not]
 cases hb : plB i.e
 ·simp only [Bool.not_false, dIf_bool, if_true]
 simp only [Bool.not_true, dIf_bool, Bool.false_eq_true, Bool.true_eq_false, if_false, s1048, bs, dBin_eql]
 generalize linesE i.e 60000 = L
 by_cases c2 : L = 9
 ·subst c2
  simp [-bind_some]
 by_cases c3 : L = 4
 ·subst c3
  simp [-bind_some]
 by_cases c4 : L = 19
 ·subst c4
  simp [-bind_some]
 simp only [c2, c3, c4, or_self, decide_false, gd_bool, if_true, bs, dPick_bool, dIf_bool, Bool.false_eq_true, if_false, q5, q6, q7, q8, q9, q4, ld3, ld9, ld29, ld28, dBin_neq]
 have hfl : (i.e.fs.length : Int) = 0 ↔ i.e.fs.length = 0 := by omega
 have h49 := s1049 i.e.ls i.e.ld h i.e.hld i.e.hll
 generalize (i.e.ls.any fun p => !(p.txt == [])) = bb at h49 ⊢
 by_cases d1n : ¬ i.e.a5 = 0
 ·simp only [c2, c3, c4, dBin_eql, d1n, ne_eq, not_true, not_false_eq_true, true_or, or_true, false_or, or_false, decide_true, decide_false, gd_bool, gdW_bool, gd_und, gdW_und, reduceCtorEq, if_true, if_false, Bool.false_eq_true, Bool.true_eq_false, bs, dPick_bool, dIf_bool, ld3, ld9, ld29, ld28, dBin_neq, dBin_sneq, lens29 i.e.hfd, hfl, h49, beq_self_eq_true, Bool.not_true, Bool.not_false, or_self]
 have d1 : i.e.a5 = 0 := Decidable.not_not.1 d1n
 by_cases d2n : ¬ i.e.a6 = 0
 ·simp only [c2, c3, c4, dBin_eql, d1, d2n, ne_eq, not_true, not_false_eq_true, true_or, or_true, false_or, or_false, decide_true, decide_false, gd_bool, gdW_bool, gd_und, gdW_und, reduceCtorEq, if_true, if_false, Bool.false_eq_true, Bool.true_eq_false, bs, dPick_bool, dIf_bool, ld3, ld9, ld29, ld28, dBin_neq, dBin_sneq, lens29 i.e.hfd, hfl, h49, beq_self_eq_true, Bool.not_true, Bool.not_false, or_self]
 have d2 : i.e.a6 = 0 := Decidable.not_not.1 d2n
 by_cases d3n : ¬ i.e.s7 = []
 ·have d3b : (i.e.s7 == []) = false := by simpa using d3n
  simp only [c2, c3, c4, dBin_eql, d1, d2, d3n, d3b, ne_eq, not_true, not_false_eq_true, true_or, or_true, false_or, or_false, decide_true, decide_false, gd_bool, gdW_bool, gd_und, gdW_und, reduceCtorEq, if_true, if_false, Bool.false_eq_true, Bool.true_eq_false, bs, dPick_bool, dIf_bool, ld3, ld9, ld29, ld28, dBin_neq, dBin_sneq, lens29 i.e.hfd, hfl, h49, beq_self_eq_true, Bool.not_true, Bool.not_false, or_self]
 have d3 : i.e.s7 = [] := Decidable.not_not.1 d3n
 by_cases d4n : ¬ i.e.s8 = []
 ·have d4b : (i.e.s8 == []) = false := by simpa using d4n
  simp only [c2, c3, c4, dBin_eql, d1, d2, d3, d4n, d4b, ne_eq, not_true, not_false_eq_true, true_or, or_true, false_or, or_false, decide_true, decide_false, gd_bool, gdW_bool, gd_und, gdW_und, reduceCtorEq, if_true, if_false, Bool.false_eq_true, Bool.true_eq_false, bs, dPick_bool, dIf_bool, ld3, ld9, ld29, ld28, dBin_neq, dBin_sneq, lens29 i.e.hfd, hfl, h49, beq_self_eq_true, Bool.not_true, Bool.not_false, or_self]
 have d4 : i.e.s8 = [] := Decidable.not_not.1 d4n
 by_cases d5n : ¬ i.e.fs.length = 0
 ·simp only [c2, c3, c4, dBin_eql, d1, d2, d3, d4, d5n, ne_eq, not_true, not_false_eq_true, true_or, or_true, false_or, or_false, decide_true, decide_false, gd_bool, gdW_bool, gd_und, gdW_und, reduceCtorEq, if_true, if_false, Bool.false_eq_true, Bool.true_eq_false, bs, dPick_bool, dIf_bool, ld3, ld9, ld29, ld28, dBin_neq, dBin_sneq, lens29 i.e.hfd, hfl, h49, beq_self_eq_true, Bool.not_true, Bool.not_false, or_self]
 have d5 : i.e.fs.length = 0 := Decidable.not_not.1 d5n
 simp only [c2, c3, c4, dBin_eql, d1, d2, d3, d4, d5, ne_eq, not_true, not_false_eq_true, true_or, or_true, false_or, or_false, decide_true, decide_false, gd_bool, gdW_bool, gd_und, gdW_und, reduceCtorEq, if_true, if_false, Bool.false_eq_true, Bool.true_eq_false, bs, dPick_bool, dIf_bool, ld3, ld9, ld29, ld28, dBin_neq, dBin_sneq, lens29 i.e.hfd, hfl, h49, beq_self_eq_true, Bool.not_true, Bool.not_false, or_self]
 cases bb <;> simp [-bind_some, h49]
structure Tal where
 h : Int
 r : Str
 n : Int
def talr (t : Tal) : List D := [.int .i64 t.h, .str t.r, .int .i64 t.n]
theorem talr_ld (m : Tal) (h : Hp) : dLoad tab h ty106 (.fptr (talr m)) = some (.agg (talr m)) := id rfl
theorem talr_frz (n0 : Nat) (h : Hp) (n : Nat) (p : Tal) : ∀ d ∈ talr p, frz n0 h n d = d := by simp [-bind_some, talr]
theorem talr_ok (n : Nat) (p : Tal) : ∀ d ∈ talr p, Ok n d := by
 intro d hd
 simp [-bind_some, talr] at hd
 rcases hd with rfl | rfl | rfl <;> constructor
def cmpS (a b : Str) : Int := if Op.bytesLess a b = true then -1 else if a = b then 0 else 1
theorem s100 (s : Str) (h : Hp) : R fn100 [.str s] h = some (.bool false, h) := by
 rw [e100]
 simp [-bind_some, F100]
theorem s91 (a b : Str) (h : Hp) : R fn91 [.str a, .str b] h = some (.int .i64 (cmpS a b), h) := by
 rw [e91]
 simp only [F91, bs, s100, dIf_bool, Bool.false_eq_true, if_false, dBin_slss, sgtr, cmpS, mkRes_one]
 cases h0 : Op.bytesLess a b
 ·by_cases h1 : a = b <;> simp [-bind_some, h1]
 ·simp [-bind_some]
def cmpT (a b : Tal) : Int := orI [cmpI a.h b.h, cmpS a.r b.r]
theorem s88 (a b : Tal) (h : Hp) : R fn88 [.agg (talr a), .agg (talr b)] h = some (.int .i64 (cmpT a b), h) := by
 have hb : ∀ n0 n1 : Int, pLitF tab ty82 2 [0, 1] [.int .i64 n0, .int .i64 n1] = some (.sl 1 true ([n0, n1].map inr)) := fun n0 n1 => id rfl
 have h89 := s89 [cmpI a.h b.h, cmpS a.r b.r] (.sl 1 true [inr (cmpI a.h b.h), inr (cmpS a.r b.r)]) h (SlOf.mk 1 inr [cmpI a.h b.h, cmpS a.r b.r] true) (by simp)
 rw [e88]
 simp [-bind_some, F88, talr, s90, s91, hb, h89, cmpT]
def RdT (h : Hp) (l : List Tal) (d : D) : Prop := SlOf 3 talr l d ∨ ∃ ob, d = .msl 3 ob 0 l.length ∧ h[ob]? = some (.row ty106 3 (l.map talr))
theorem rdT_len {h : Hp} {l : List Tal} {d : D} (hd : RdT h l d) : dLenT tab ty58 d = some (.int .i64 l.length) := by
 rcases hd with hd | ⟨ob, rfl, _⟩
 ·exact lens58 hd
 ·exact lenm58 _ _ _ _
theorem rdT_ix {h : Hp} {l : List Tal} {d : D} (hd : RdT h l d) (i : Nat) (p : Tal) (hp : l[i]? = some p) : ∃ q, dIndexAddr tab ty58 d (.int .i64 i) = some q ∧ dLoad tab h ty106 q = some (.agg (talr p)) := by
 have hi := (List.getElem?_eq_some_iff.1 hp).1
 rcases hd with hd | ⟨ob, rfl, ho⟩
 ·exact ⟨.fptr (talr p), by rw [ixs58 hd]; simp [-bind_some, hp], talr_ld p h⟩
 ·have hr : (l.map talr)[i]? = some (talr p) := by rw [List.getElem?_map, hp]; rfl
  have hh : (0 : Int) ≤ (i : Int) ∧ (i : Int) < (l.length : Int) := by omega
  refine ⟨.ptr ob i 0, by rw [ixm58]; simp [-bind_some, hh], ?_⟩
  rw [ldp106, row_of ho, hr]; rfl
theorem s87 (l : List Tal) (d : D) (t : Tal) (fn : D) (c : Tal → Int) (h : Hp) (hd : RdT h l d) (hl : l.length ≤ 1000000) (hf : ∀ x, callV R fn [.agg (talr x), .agg (talr t)] h = some (.int .i64 (c x), h))
   (k : Nat) (hk : k ≤ l.length) (h1 : ∀ i x, l[i]? = some x → i < k → c x < 0) (h2 : ∀ i x, l[i]? = some x → k ≤ i → 0 ≤ c x) :
   R fn87 [d, .agg (talr t), fn] h = some (.tup [.int .i64 k, .bool (match l[k]? with | some x => decide (c x = 0) | none => false)], h) := by
 suffices Wp (R fn87 [d, .agg (talr t), fn] h) (fun p => p = (.tup [.int .i64 k, .bool (match l[k]? with | some x => decide (c x = 0) | none => false)], h)) by
  obtain ⟨p, h1, rfl⟩ := this
  exact h1
 rw [e87]
 simp only [F87, pBoxF_agg, bs, Option.bind_assoc, rdT_len hd]
 refine Wp.loop (fun n ds g => g = h ∧ ∃ a b e, ∃ lo hi : Nat, ds = [.int .i64 lo, .int .i64 hi, a, b, e] ∧ lo ≤ k ∧ k ≤ hi ∧ hi ≤ l.length ∧ n = hi - lo)
   (fun x => x.1 = .ext 0 ∧ x.2.2 = h ∧ nth 0 x.2.1 = .int .i64 k) l.length ⟨rfl, _, _, _, 0, l.length, rfl, by omega, hk, Nat.le_refl _, rfl⟩ ?_ ?_
 ·rintro n ds g ⟨rfl, a, b, e, lo, hi, rfl, hlo, hhi, hle, rfl⟩
  simp only [F87_L0, nth_zero, nth_succ, bs, Option.bind_assoc, dBin_lss]
  refine Wp.dif ?_ ?_
  ·intro h0
   have h0 : lo < hi := by have : (lo : Int) < hi := by simpa using h0
                           omega
   have hw : IntKind.wrap .i64 ((lo : Int) + hi) = ((lo + hi : Nat) : Int) := by
    rw [wrap_i64 (by omega) (by omega)]; omega
   have hw2 : IntKind.wrap .u64 ((lo + hi : Nat) : Int) = ((lo + hi : Nat) : Int) := by
    unfold IntKind.wrap
    simp [-bind_some, IntKind.signed, IntKind.bits, IntKind.min, IntKind.max]
    omega
   have hw3 : (((lo + hi : Nat) : Int)).fdiv (2 ^ (min (Int.toNat 1) IntKind.u64.bits)) = (((lo + hi) / 2 : Nat) : Int) := by
    rw [show (2 : Int) ^ (min (Int.toNat 1) IntKind.u64.bits) = 2 by decide]
    rw [Int.fdiv_eq_ediv_of_nonneg _ (by omega)]
    omega
   have hw4 : IntKind.wrap .i64 (((lo + hi) / 2 : Nat) : Int) = (((lo + hi) / 2 : Nat) : Int) := wrap_i64 (by omega) (by omega)
   have hw5 : IntKind.wrap .i64 ((((lo + hi) / 2 : Nat) : Int) + 1) = (((lo + hi) / 2 + 1 : Nat) : Int) := by
    rw [wrap_i64 (by omega) (by omega)]; omega
   have hm : (lo + hi) / 2 < l.length := by omega
   have hm1 : lo ≤ (lo + hi) / 2 := by omega
   have hm2 : (lo + hi) / 2 < hi := by omega
   generalize (lo + hi) / 2 = mid at *
   have hg : l[mid]? = some l[mid] := List.getElem?_eq_getElem hm
   generalize l[mid] = x at hg
   obtain ⟨q0, i0, i1⟩ := rdT_ix hd mid x hg
   simp only [dBin_add, hw, cv3_134, cv134_3, bs, hw2, dBin_shr, show ¬ (1 : Int) < 0 by omega, if_false, hw3, hw4, i0, i1, talr_ld, hf, dBin_lss]
   by_cases hc : c x < 0
   ·have hkm : mid < k := by
      rcases Nat.lt_or_ge mid k with hh | hh
      ·exact hh
      ·have := h2 mid x hg hh
       omega
    simp only [hc, decide_true, dIf_bool, if_true, bs, hw5, unblk_nrm, nth_zero, nth_succ]
    exact .some (.inl ⟨rfl, hi - (mid + 1), by omega, rfl, _, _, _, mid + 1, hi, rfl, by omega, hhi, hle, rfl⟩)
   ·have hkm : k ≤ mid := by
      rcases Nat.lt_or_ge mid k with hh | hh
      ·exact absurd (h1 mid x hg hh) hc
      ·exact hh
    simp only [hc, decide_false, dIf_bool, Bool.false_eq_true, if_false, bs, unblk_nrm, nth_zero, nth_succ]
    exact .some (.inl ⟨rfl, mid - lo, by omega, rfl, _, _, _, lo, mid, rfl, hlo, hkm, by omega, rfl⟩)
  ·intro h0
   have h0 : lo = k := by have : ¬ (lo : Int) < hi := by simpa using h0
                          omega
   subst h0
   exact .some (.inr ⟨by simp, rfl, rfl, rfl⟩)
 ·rintro ⟨ex, ds, g⟩ ⟨q1, q2, q3⟩
  simp only at q1 q2 q3
  subst q1; subst q2
  simp only [unblk_self, toEnd_nrm, nth_zero, q3, bs, dBin_lss]
  by_cases hkl : k < l.length
  ·have hg : l[k]? = some l[k] := List.getElem?_eq_getElem hkl
   have hlt : (k : Int) < l.length := by omega
   generalize l[k] = x at hg
   obtain ⟨q0, i0, i1⟩ := rdT_ix hd k x hg
   simp only [hlt, decide_true, gd_bool, if_true, bs, i0, i1, talr_ld, gdW_bool, hf, dBin_eql, dPick_bool, mkRes_two, hg]
   exact .some rfl
  ·have hg : l[k]? = none := List.getElem?_eq_none (by omega)
   have hlt : ¬ (k : Int) < l.length := by omega
   simp only [hlt, decide_false, gd_bool, Bool.false_eq_true, if_false, bs, gdW_bool, dPick_bool, mkRes_two, hg]
   exact .some rfl
theorem s80 (l : List Tal) (d : D) (hst : Int) (rule : Str) (h : Hp) (hd : RdT h l d) (hl : l.length ≤ 1000000)
   (k : Nat) (hk : k ≤ l.length) (h1 : ∀ i x, l[i]? = some x → i < k → cmpT x ⟨hst, rule, 0⟩ < 0) (h2 : ∀ i x, l[i]? = some x → k ≤ i → 0 ≤ cmpT x ⟨hst, rule, 0⟩) :
   R fn80 [d, .int .i64 hst, .str rule] h = some (.tup [.int .i64 k, .bool (match l[k]? with | some x => decide (cmpT x ⟨hst, rule, 0⟩ = 0) | none => false)], h) := by
 have hb : dBuild tab ty106 [0, 1] [.int .i64 hst, .str rule] = some (.agg (talr ⟨hst, rule, 0⟩)) := id rfl
 rw [e80]
 simp only [F80, bs, hb, Option.bind_assoc]
 rw [s87 l d ⟨hst, rule, 0⟩ (.fn (.func fn88) [] []) (fun x => cmpT x ⟨hst, rule, 0⟩) h hd hl (fun x => by rw [callV_some]; exact s88 x _ h) k hk h1 h2]
 rfl
theorem bL_irr : ∀ a : Str, Op.bytesLess a a = false
 | [] => rfl
 | x :: a => by simp [-bind_some, Op.bytesLess, bL_irr a]
theorem bL_tr : ∀ {a b c : Str}, Op.bytesLess a b = true → Op.bytesLess b c = true → Op.bytesLess a c = true
 | _, [], _, h, _ => by cases ‹Str› <;> simp [-bind_some, Op.bytesLess] at h
 | _, _ :: _, [], _, h => by simp [-bind_some, Op.bytesLess] at h
 | [], _ :: _, _ :: _, _, _ => rfl
 | x :: a, y :: b, z :: c, h, k => by
  simp only [Op.bytesLess, Bool.or_eq_true, decide_eq_true_eq, Bool.and_eq_true, beq_iff_eq] at h k ⊢
  rcases h with h | ⟨rfl, h⟩
  ·rcases k with k | ⟨rfl, k⟩
   ·exact .inl (UInt8.lt_trans h k)
   ·exact .inl h
  ·rcases k with k | ⟨rfl, k⟩
   ·exact .inl k
   ·exact .inr ⟨rfl, bL_tr h k⟩
theorem bL_tot : ∀ {a b : Str}, Op.bytesLess a b = false → a ≠ b → Op.bytesLess b a = true
 | [], [], _, h => absurd rfl h
 | [], _ :: _, h, _ => by simp [-bind_some, Op.bytesLess] at h
 | _ :: _, [], _, _ => rfl
 | x :: a, y :: b, h, k => by
  simp only [Op.bytesLess, Bool.or_eq_false_iff, decide_eq_false_iff_not, Bool.and_eq_false_iff, beq_eq_false_iff_ne] at h
  simp only [Op.bytesLess, Bool.or_eq_true, decide_eq_true_eq, Bool.and_eq_true, beq_iff_eq]
  by_cases hxy : x = y
  ·subst hxy
   refine .inr ⟨rfl, bL_tot (h.2.resolve_left fun hh => hh rfl) fun hh => k (by rw [hh])⟩
  ·left
   have h1 := mt UInt8.lt_iff_toNat_lt.2 h.1
   have h2 : x.toNat ≠ y.toNat := fun hh => hxy (UInt8.toNat_inj.1 hh)
   exact UInt8.lt_iff_toNat_lt.2 (by omega)
def kl (a b : Tal) : Prop := a.h < b.h ∨ (a.h = b.h ∧ Op.bytesLess a.r b.r = true)
theorem cmpT_lt (a b : Tal) : cmpT a b < 0 ↔ kl a b := by
 unfold cmpT orI orI orI cmpI cmpS kl
 by_cases h1 : a.h < b.h
 ·simp [-bind_some, h1]
 ·by_cases h2 : b.h < a.h
  ·have h3 : ¬ a.h = b.h := by omega
   simp [-bind_some, h1, h2, h3]
  ·have h3 : a.h = b.h := by omega
   cases h4 : Op.bytesLess a.r b.r
   ·by_cases h5 : a.r = b.r <;> simp [-bind_some, h3, h5]
   ·simp [-bind_some, h3]
theorem cmpT_eq (a b : Tal) : cmpT a b = 0 ↔ a.h = b.h ∧ a.r = b.r := by
 unfold cmpT orI orI orI cmpI cmpS
 by_cases h1 : a.h < b.h
 ·have h3 : ¬ a.h = b.h := by omega
  simp [-bind_some, h1, h3]
 ·by_cases h2 : b.h < a.h
  ·have h3 : ¬ a.h = b.h := by omega
   simp [-bind_some, h1, h2, h3]
  ·have h3 : a.h = b.h := by omega
   cases h4 : Op.bytesLess a.r b.r
   ·by_cases h5 : a.r = b.r <;> simp [-bind_some, h3, h5]
   ·have h5 : ¬ a.r = b.r := fun hh => by rw [hh, bL_irr] at h4; cases h4
    simp [-bind_some, h3, h5]
theorem kl_tr {a b c : Tal} (h : kl a b) (k : kl b c) : kl a c := by
 unfold kl at *
 rcases h with h | ⟨h, h'⟩ <;> rcases k with k | ⟨k, k'⟩
 ·left; omega
 ·left; omega
 ·left; omega
 ·exact .inr ⟨by omega, bL_tr h' k'⟩
theorem kl_tot {a b : Tal} (h : ¬ kl a b) (k : ¬ (a.h = b.h ∧ a.r = b.r)) : kl b a := by
 unfold kl at *
 by_cases h1 : a.h = b.h
 ·right
  refine ⟨h1.symm, bL_tot ?_ fun hh => k ⟨h1, hh⟩⟩
  cases h2 : Op.bytesLess a.r b.r
  ·rfl
  ·exact absurd (.inr ⟨h1, h2⟩) h
 ·left
  have : ¬ a.h < b.h := fun hh => h (.inl hh)
  omega
def TAsc (l : List Tal) : Prop := l.Pairwise kl
def kT (key : Tal) : List Tal → Nat
 | [] => 0
 | x :: r => if cmpT x key < 0 then kT key r + 1 else 0
theorem kT_le (key : Tal) : ∀ l, kT key l ≤ l.length
 | [] => Nat.le_refl _
 | x :: r => by
  unfold kT
  split
  ·have := kT_le key r; simp [-bind_some]; omega
  ·simp [-bind_some]
theorem kT_lt (key : Tal) : ∀ (l : List Tal) (i : Nat) (x : Tal), l[i]? = some x → i < kT key l → cmpT x key < 0
 | y :: r, 0, x, hx, hi => by
  unfold kT at hi
  simp at hx
  subst hx
  split at hi
  ·assumption
  ·omega
 | y :: r, i + 1, x, hx, hi => by
  unfold kT at hi
  simp at hx
  split at hi
  ·exact kT_lt key r i x hx (by omega)
  ·omega
theorem kT_ge (key : Tal) : ∀ (l : List Tal), TAsc l → ∀ (i : Nat) (x : Tal), l[i]? = some x → kT key l ≤ i → 0 ≤ cmpT x key
 | y :: r, hs, i, x, hx, hi => by
  unfold kT at hi
  have hs' := List.pairwise_cons.1 hs
  split at hi
  ·cases i with
   | zero => omega
   | succ i => exact kT_ge key r hs'.2 i x (by simpa using hx) (by omega)
  ·rename_i hc
   rcases Int.lt_or_le (cmpT x key) 0 with h1 | h1
   ·exfalso
    cases i with
    | zero => simp at hx; subst hx; exact hc h1
    | succ i =>
     have hx' : r[i]? = some x := by simpa using hx
     exact hc ((cmpT_lt _ _).2 (kl_tr (hs'.1 x (List.mem_of_getElem? hx')) ((cmpT_lt _ _).1 h1)))
   ·exact h1
def addK (l : List Tal) (hst : Int) (rule : Str) (n : Int) (k : Nat) : List Tal := match l[k]? with
 | some x => if cmpT x ⟨hst, rule, 0⟩ = 0 then l.set k ⟨x.h, x.r, IntKind.wrap .i64 (x.n + n)⟩ else l.take k ++ [⟨hst, rule, IntKind.wrap .i64 (0 + n)⟩] ++ l.drop k
 | none => l.take k ++ [⟨hst, rule, IntKind.wrap .i64 (0 + n)⟩] ++ l.drop k
def addT (l : List Tal) (hst : Int) (rule : Str) (n : Int) : List Tal := if n < 1 then l else addK l hst rule n (kT ⟨hst, rule, 0⟩ l)
theorem u79 (l : List Tal) (d : D) (h : Hp) (hd : SlOf 3 talr l d) (hl : l.length ≤ 1000000) : ∃ d' h', R fn79 [d] h = some (d', h') ∧ h.length ≤ h'.length ∧ (∀ q, q < h.length → h'[q]? = h[q]?) ∧
  ((l = [] ∧ (d' = .nils ∨ d' = .sl 3 true [])) ∨ ∃ ob, h.length ≤ ob ∧ d' = .msl 3 ob 0 l.length ∧ h'[ob]? = some (.row ty106 3 (l.map talr))) := by
 rw [e79]
 rcases hd with ⟨rfl, rfl⟩ | ⟨b, rfl⟩
 ·exact ⟨.nils, h, by
    have hne : dBin tab .eql ty58 .nils .nils = some (.bool true) := id rfl
    simp [-bind_some, F79, hne], Nat.le_refl _, fun _ _ => rfl, .inl ⟨rfl, .inl rfl⟩⟩
 ·obtain ⟨x', h', e, hl', hq, ho⟩ := app_full (T := tab) (t := ty58) (i := ti58) (j := ti106) (h := h) (id rfl) (id rfl) (id rfl) (by decide) (y := .sl 3 b (l.map talr)) (rowsOf_sl _ _ _ _) (lim_ok (by have : ti106.by_ = 32 := rfl; rw [this, List.length_map]; omega) (by rw [List.length_map]; omega))
  have e' : dAppend tab h ty58 ty58 (.sl 3 true []) (.sl 3 b (l.map talr)) = some (x', h') := e
  have hne : dBin tab .eql ty58 (.sl 3 b (l.map talr)) .nils = some (.bool false) := id rfl
  refine ⟨x', h', ?_, hl', hq, ?_⟩
  ·simp only [F79, bs, hne, dIf_bool, Bool.false_eq_true, if_false, bs58_0, e', mkRes_one]
  ·rcases ho with ⟨rfl, hn⟩ | ⟨rfl, hn⟩ | ⟨ob, h1, rfl, h2⟩
   ·have : l = [] := by simpa using hn
    exact .inl ⟨this, .inr rfl⟩
   ·have : l = [] := by simpa using hn
    exact .inl ⟨this, .inl rfl⟩
   ·exact .inr ⟨ob, h1, by rw [List.length_map]; rfl, h2⟩
theorem lim106 {n : Nat} (hn : n ≤ 1000001) : lim n ti106.by_ = true := lim_ok (by have : ti106.by_ = 32 := rfl; rw [this]; omega) (by omega)
theorem addT_len (l : List Tal) (hst : Int) (rule : Str) (n : Int) : (addT l hst rule n).length ≤ l.length + 1 := by
 unfold addT
 split
 ·omega
 ·have hk := kT_le ⟨hst, rule, 0⟩ l
  generalize kT ⟨hst, rule, 0⟩ l = k at hk
  unfold addK
  split
  ·split
   ·simp [-bind_some]
   ·simp [-bind_some]; omega
  ·simp [-bind_some]; omega
theorem addT_asc {l : List Tal} (hs : TAsc l) (hst : Int) (rule : Str) (n : Int) : TAsc (addT l hst rule n) := by
 unfold addT
 split
 ·exact hs
 ·have hk := kT_le ⟨hst, rule, 0⟩ l
  have h1 := kT_lt ⟨hst, rule, 0⟩ l
  have h2 := kT_ge ⟨hst, rule, 0⟩ l hs
  generalize kT ⟨hst, rule, 0⟩ l = k at hk h1 h2
  have hins : (∀ x, l[k]? = some x → ¬ cmpT x ⟨hst, rule, 0⟩ = 0) → TAsc (l.take k ++ [⟨hst, rule, IntKind.wrap .i64 (0 + n)⟩] ++ l.drop k) := fun hne => by
   have hpre : ∀ x ∈ l.take k, kl x ⟨hst, rule, 0⟩ := fun x hx => by
    obtain ⟨i, hi⟩ := List.mem_iff_getElem?.1 hx
    rw [List.getElem?_take] at hi
    split at hi
    ·exact (cmpT_lt _ _).1 (h1 i x hi (by assumption))
    ·cases hi
   have hpost : ∀ x ∈ l.drop k, kl ⟨hst, rule, 0⟩ x := fun x hx => by
    obtain ⟨i, hi⟩ := List.mem_iff_getElem?.1 hx
    rw [List.getElem?_drop] at hi
    have hge := h2 (k + i) x hi (by omega)
    refine kl_tot (fun hh => ?_) fun hh => ?_
    ·have := (cmpT_lt _ _).2 hh; omega
    ·have h0 := (cmpT_eq x ⟨hst, rule, 0⟩).2 hh
     cases i with
     | zero => exact hne x hi h0
     | succ i =>
      have hlt := (List.getElem?_eq_some_iff.1 hi).1
      have hg : l[k]? = some (l[k]'(by omega)) := List.getElem?_eq_getElem (by omega)
      generalize l[k]'(by omega) = y at hg
      have hky : kl y x := by
       have := List.pairwise_iff_getElem.1 hs k (k + (i + 1)) (by omega) hlt (by omega)
       rw [List.getElem?_eq_getElem (by omega)] at hg hi
       injection hg with hg
       injection hi with hi
       rwa [hg, hi] at this
      have := h2 k y hg (Nat.le_refl _)
      have h3 : cmpT y ⟨hst, rule, 0⟩ < 0 := by
       rw [cmpT_lt]
       unfold kl at hky ⊢
       rw [hh.1, hh.2] at hky
       exact hky
      omega
   unfold TAsc
   rw [List.append_assoc, List.pairwise_append]
   refine ⟨hs.sublist (List.take_sublist _ _), ?_, fun a ha b hb => ?_⟩
   ·rw [List.singleton_append, List.pairwise_cons]
    exact ⟨fun b hb => hpost b hb, hs.sublist (List.drop_sublist _ _)⟩
   ·rw [List.singleton_append, List.mem_cons] at hb
    rcases hb with rfl | hb
    ·exact hpre a ha
    ·exact kl_tr (hpre a ha) (hpost b hb)
  unfold addK
  cases hg : l[k]? with
  | none => exact hins fun x hx => by rw [hg] at hx; cases hx
  | some y =>
   simp only
   split
   ·have hkl := (List.getElem?_eq_some_iff.1 hg).1
    unfold TAsc at hs ⊢
    rw [List.pairwise_iff_getElem] at hs ⊢
    have hval : l[k] = y := (List.getElem?_eq_some_iff.1 hg).2
    intro i j hi hj hij
    have q := hs i j (by simpa using hi) (by simpa using hj) hij
    simp only [List.getElem_set]
    by_cases hki : k = i
    ·subst hki
     have hkj : ¬ k = j := by omega
     simp only [if_true, hkj, if_false]
     rw [hval] at q
     exact q
    ·by_cases hkj : k = j
     ·subst hkj
      simp only [hki, if_false, if_true]
      rw [hval] at q
      exact q
     ·simp only [hki, hkj, if_false]
      exact q
   ·rename_i hne
    exact hins fun x hx => by
     rw [hg] at hx
     injection hx with hx
     subst hx
     exact hne
theorem talr_frz' {l : List Tal} {d : D} (hd : SlOf 3 talr l d) (n0 : Nat) (h : Hp) (n : Nat) : frz n0 h n d = d := by
 cases n with
 | zero => rfl
 | succ n =>
  rcases hd with ⟨rfl, _⟩ | ⟨b, rfl⟩
  ·simp [-bind_some]
  ·refine frz_sl_id fun row hrow => ?_
   obtain ⟨a, _, rfl⟩ := List.mem_map.1 hrow
   exact talr_frz _ _ _ a
def gr : List Ev → List Ev → Bool
 | [], _ => true
 | _ :: _, [] => false
 | x :: a, y :: b => if sameE x y = true then gr a b else gr (x :: a) b
def klB (x : Tal) (hst : Int) (rule : Str) : Bool := decide (x.h < hst) || (decide (x.h = hst) && Op.bytesLess x.r rule)
theorem klB_lt (x : Tal) (hst : Int) (rule : Str) : klB x hst rule = true ↔ cmpT x ⟨hst, rule, 0⟩ < 0 := by
 rw [cmpT_lt]
 simp [-bind_some, klB, kl]
theorem kT_at (key : Tal) : ∀ (l : List Tal) (x : Tal), l[kT key l]? = some x → ¬ cmpT x key < 0
 | y :: r, x, hx => by
  unfold kT at hx
  split at hx
  ·exact kT_at key r x (by simpa using hx)
  ·rename_i hc
   simp at hx
   subst hx
   exact hc
theorem b60 (l : List Tal) (d : D) (hst : Int) (rule : Str) (h : Hp) (hd : SlOf 3 talr l d) (i : Nat) (x : Tal) (hi : l[i]? = some x) (hl : l.length ≤ 1000000) (a : D) :
  F60_L0 d (.int .i64 hst) (.str rule) [.int .i64 i, a] h = if klB x hst rule = true then some (.nrm, [.int .i64 ((i + 1 : Nat) : Int), .bool true], h) else some (.ext 0, [.int .i64 i, .bool false], h) := by
 have hlt : i < l.length := (List.getElem?_eq_some_iff.1 hi).1
 have hlt' : (i : Int) < l.length := by omega
 have hw : IntKind.wrap .i64 ((i : Int) + 1) = ((i + 1 : Nat) : Int) := by
  rw [wrap_i64 (by omega) (by omega)]; omega
 have hix : dIndexAddr tab ty58 d (.int .i64 i) = some (.fptr (talr x)) := by rw [ixs58 hd]; simp [-bind_some, hi]
 by_cases h0 : x.h < hst
 ·simp [-bind_some, F60_L0, lens58 hd, hlt', hix, talr, klB, h0, hw]
 ·by_cases h1 : x.h = hst
  ·cases h2 : Op.bytesLess x.r rule
   ·simp [-bind_some, F60_L0, lens58 hd, hlt', hix, talr, klB, h0, h1, h2, hw]
   ·simp [-bind_some, F60_L0, lens58 hd, hlt', hix, talr, klB, h0, h1, h2, hw]
  ·simp [-bind_some, F60_L0, lens58 hd, hlt', hix, talr, klB, h0, h1, hw]
theorem l60 (l : List Tal) (d : D) (hst : Int) (rule : Str) (h : Hp) (hd : SlOf 3 talr l d) (hl : l.length ≤ 1000000) {β : Type} {K : Out → Option β} {Q : β → Prop} (a : D)
  (cont : ∀ b, Wp (K (.ext 0, [.int .i64 (kT ⟨hst, rule, 0⟩ l : Nat), b], h)) Q) : Wp ((loopW (F60_L0 d (.int .i64 hst) (.str rule)) [.int .i64 0, a] h).bind K) Q := by
 have hk := kT_le ⟨hst, rule, 0⟩ l
 have k1 := kT_lt ⟨hst, rule, 0⟩ l
 have k2 := kT_at ⟨hst, rule, 0⟩ l
 generalize kT ⟨hst, rule, 0⟩ l = k at hk k1 k2 cont
 refine Wp.loop (fun n ds g => g = h ∧ ∃ a, ∃ i : Nat, ds = [.int .i64 i, a] ∧ n + i = k) (fun r => ∃ b, r = (.ext 0, [.int .i64 (k : Nat), b], h)) k ⟨rfl, _, 0, rfl, rfl⟩ ?_ ?_
 ·rintro n ds g ⟨rfl, a, i, rfl, hi⟩
  by_cases hil : i < l.length
  ·have hg : l[i]? = some l[i] := List.getElem?_eq_getElem hil
   generalize l[i] = x at hg
   rw [b60 l d hst rule g hd i x hg hl]
   by_cases hc : klB x hst rule = true
   ·rw [if_pos hc]
    have : i ≠ k := fun hh => by subst hh; exact k2 x hg ((klB_lt _ _ _).1 hc)
    exact .some (.inl ⟨rfl, n - 1, by omega, rfl, _, i + 1, rfl, by omega⟩)
   ·rw [if_neg hc]
    have : i = k := by
     rcases Nat.lt_or_ge i k with hh | hh
     ·exact absurd ((klB_lt _ _ _).2 (k1 i x hg hh)) hc
     ·omega
    subst this
    exact .some (.inr ⟨by simp, _, rfl⟩)
  ·have : i = k := by omega
   subst this
   have hn : ¬ (i : Int) < l.length := by omega
   have e : F60_L0 d (.int .i64 hst) (.str rule) [.int .i64 i, a] g = some (.ext 0, [.int .i64 i, .bool false], g) := by
    simp [-bind_some, F60_L0, lens58 hd, hn]
   rw [e]
   exact .some (.inr ⟨by simp, _, rfl⟩)
 ·rintro _ ⟨b, rfl⟩
  exact cont b
theorem app_t (h : Hp) (rows : List (List D)) (r : List D) (b : Bool) (hl : rows.length ≤ 1000000) : dAppend tab h ty58 ty58 (.sl 3 true rows) (.sl 3 b [r]) = some (.msl 3 h.length 0 (rows.length + 1), dNew h ty106 3 (rows ++ [r])) := by
 have e1 : tab ty58 = some ti58 := rfl
 have e2 : ti58.td = .sl ty106 := rfl
 have e3 : tab ty106 = some ti106 := rfl
 have e4 : ti106.sz = 3 := rfl
 have hlim : lim (rows.length + 1) ti106.by_ = true := lim106 (by omega)
 have e5 : Nat.blt 0 3 = true := rfl
 simp [-bind_some, dAppend, dSrc, dRowsOf, e1, e2, e3, e4, e5, hlim]
theorem app_n (h : Hp) (r : List D) (b : Bool) : dAppend tab h ty58 ty58 .nils (.sl 3 b [r]) = some (.msl 3 h.length 0 1, dNew h ty106 3 [r]) := by
 have e1 : tab ty58 = some ti58 := rfl
 have e2 : ti58.td = .sl ty106 := rfl
 have e3 : tab ty106 = some ti106 := rfl
 have e4 : ti106.sz = 3 := rfl
 have hlim : lim 1 ti106.by_ = true := lim106 (by omega)
 have e5 : Nat.blt 0 3 = true := rfl
 simp [-bind_some, dAppend, dSrc, dRowsOf, e1, e2, e3, e4, e5, hlim]
theorem cut_t {h : Hp} {n0 : Nat} {rows : List (List D)} {x : D} (ow : Own h n0 ty106 3 rows x) (hl : rows.length ≤ 1000000) (i : Nat) (hi : i ≤ rows.length) (r : List D) (b : Bool) (hn0 : n0 ≤ h.length) :
  ∃ y h1, dCut tab h ty58 false true [x, .int .i64 i, .int .i64 i] = some (y, h1) ∧ h.length ≤ h1.length ∧ (∀ q, q < n0 → h1[q]? = h[q]?) ∧ ∃ z h2, dAppend tab h1 ty58 ty58 y (.sl 3 b [r]) = some (z, h2) ∧ Own h2 n0 ty106 3 (rows.take i ++ [r]) z ∧ h.length ≤ h2.length ∧ ∀ q, q < n0 → h2[q]? = h[q]? := by
 have e1 : tab ty58 = some ti58 := rfl
 have e2 : ti58.td = .sl ty106 := rfl
 have e3 : tab ty106 = some ti106 := rfl
 have e4 : ti106.sz = 3 := rfl
 have fin : ∀ (y : D) (h1 : Hp), h.length ≤ h1.length → (∀ q, q < n0 → h1[q]? = h[q]?) → dAppend tab h1 ty58 ty58 y (.sl 3 b [r]) = some (.msl 3 h1.length 0 ((rows.take i).length + 1), dNew h1 ty106 3 (rows.take i ++ [r])) →
   ∃ z h2, dAppend tab h1 ty58 ty58 y (.sl 3 b [r]) = some (z, h2) ∧ Own h2 n0 ty106 3 (rows.take i ++ [r]) z ∧ h.length ≤ h2.length ∧ ∀ q, q < n0 → h2[q]? = h[q]? := fun y h1 hl1 hb1 e =>
  ⟨_, _, e, .inr ⟨h1.length, by omega, by simp, dNew_get _ _ _ _⟩, by simp [-bind_some, dNew]; omega, fun q hq => by rw [dNew_old _ _ _ _ (by omega)]; exact hb1 q hq⟩
 rcases ow with ⟨rfl, rfl⟩ | ⟨ob, hob, rfl, ho⟩
 ·have hi0 : i = 0 := by simpa using hi
  subst hi0
  refine ⟨.nils, h, by simp [-bind_some, dCut, dSliceAt, dInt?, dSlice3, e1, e2, e3], Nat.le_refl _, fun _ _ => rfl, fin _ _ (Nat.le_refl _) (fun _ _ => rfl) (by simpa using app_n h r b)⟩
 ·by_cases hi0 : i = 0
  ·subst hi0
   refine ⟨.sl 3 true [], h, by simp [-bind_some, dCut, dSliceAt, dInt?, dSlice3, e1, e2, e3, e4], Nat.le_refl _, fun _ _ => rfl, fin _ _ (Nat.le_refl _) (fun _ _ => rfl) (by simpa using app_t h [] r b (by simp))⟩
  ·have hlt := (List.getElem?_eq_some_iff.1 ho).1
   have hir : (i : Int) ≤ (rows.length : Int) := by omega
   have hi1 : ¬ (i : Int) = 0 := by omega
   refine ⟨.sl 3 true (rows.take i), h.set ob .dead, ?_, by simp, fun q hq => by rw [List.getElem?_set_ne (by omega)], fin _ _ (by simp) (fun q hq => by rw [List.getElem?_set_ne (by omega)]) (app_t _ _ r b (by simp; omega))⟩
   have hs : dSliceAt tab ty58 false true true [.msl 3 ob 0 rows.length, .int .i64 i, .int .i64 i] = none := by
    simp [-bind_some, dSliceAt, dInt?, dSlice3, e1, e2, e3, e4, hi1]
    intro _; exact hi0
   simp only [dCut, hs, ho, e1, e2, e3, e4, true_and, Int.natCast_nonneg, hir, Nat.le_refl, and_self, if_true, Int.toNat_natCast]
theorem s60 (l : List Tal) (d : D) (hst : Int) (rule : Str) (n : Int) (h : Hp) (hd : SlOf 3 talr l d) (hl : l.length ≤ 1000000) (hn1 : n ≤ 9223372036854775807) :
  ∃ d', R fn60 [d, .int .i64 hst, .str rule, .int .i64 n] h = some (d', h) ∧ SlOf 3 talr (addT l hst rule n) d' := by
 suffices Wp (R fn60 [d, .int .i64 hst, .str rule, .int .i64 n] h) (fun p => p.2 = h ∧ SlOf 3 talr (addT l hst rule n) p.1) by
  obtain ⟨⟨x, h'⟩, h1, rfl, h2⟩ := this
  exact ⟨x, h1, h2⟩
 rw [e60]
 simp only [F60, bs, dBin_leq]
 refine Wp.dif (fun hn => ?_) (fun hn => ?_)
 ·have hn : n ≤ 0 := by simpa using hn
  have hn' : n < 1 := by omega
  have ha : addT l hst rule n = l := by simp [-bind_some, addT, hn']
  rw [ha]
  simp only [bs, mkRes_one]
  rw [scope_eq (d' := d) (talr_frz' hd _ _ _) (slof_ok hd fun a _ => talr_ok _ a) (Nat.le_refl _) fun _ _ => rfl]
  exact .some ⟨rfl, hd⟩
 ·have hn : ¬ n ≤ 0 := by simpa using hn
  have hn' : ¬ n < 1 := by omega
  have ha : addT l hst rule n = addK l hst rule n (kT ⟨hst, rule, 0⟩ l) := by simp [-bind_some, addT, hn']
  rw [ha]
  simp only [bs, Option.bind_assoc]
  refine l60 l d hst rule h hd hl _ fun b0 => ?_
  have hk := kT_le ⟨hst, rule, 0⟩ l
  generalize kT ⟨hst, rule, 0⟩ l = k at hk
  have hw0 : IntKind.wrap .i64 n = n := wrap_i64 (by omega) hn1
  simp only [unblk_self, toEnd_nrm, nth_zero, bs, Option.bind_assoc]
  refine wap58 (n0 := h.length) (Nat.le_refl _) (Own.nils _ _ _ _) (slof_rows _ hd) (by simp; omega) fun x1 h1 ow1 len1 bel1 _ _ => ?_
  rw [List.nil_append] at ow1
  simp only [bs, lens58 hd, dBin_lss]
  have insert : addK l hst rule n k = l.take k ++ [⟨hst, rule, n⟩] ++ l.drop k →
    Wp ((dCut tab h1 ty58 false true [x1, .int .i64 (k : Nat), .int .i64 (k : Nat)]).bind fun p84 => (dBuild tab ty106 [0, 1, 2] [.int .i64 hst, .str rule, .int .i64 n]).bind fun t88 => (pLitF tab ty58 1 [0] [t88]).bind fun t89 =>
     (dAppend tab p84.2 ty58 ty58 p84.1 t89).bind fun p90 => (dSliceAt tab ty58 true false false [d, .int .i64 (k : Nat)]).bind fun t94 => (dAppend tab p90.2 ty58 ty58 p90.1 t94).bind fun p95 => scope h p95.2 (mkRes [p95.1])) (fun p => p.2 = h ∧ SlOf 3 talr (addK l hst rule n k) p.1) := fun hadd => by
   rw [hadd]
   obtain ⟨y, h2, ec, hl2, hb2, z, h3, ea, ow3, hl3, hb3⟩ := cut_t ow1 (by simpa using hl) k (by simpa using hk) [.int .i64 hst, .str rule, .int .i64 n] true len1
   obtain ⟨y2, hs2, hy2⟩ := slof_lo (T := tab) (t := ty58) (i := ti58) (j := ti106) (id rfl) (id rfl) (id rfl) (id rfl) hd (k := .i64) (n := (k : Nat)) (by omega) (by omega)
   rw [Int.toNat_natCast] at hy2
   simp only [ec, bs, bd106_0_1_2, bs58_1, ea, hs2]
   refine wap58 (n0 := h.length) (by omega) ow3 (slof_rows _ hy2) (by simp; omega) fun x4 h4 ow4 len4 bel4 _ _ => ?_
   have hrows : (l.map talr).take k ++ [[.int .i64 hst, .str rule, .int .i64 n]] ++ (l.drop k).map talr = (l.take k ++ [(⟨hst, rule, n⟩ : Tal)] ++ l.drop k).map talr := by
    rw [List.map_append, List.map_append, List.map_take]; rfl
   rw [hrows] at ow4
   have hsl := own_sl (n0 := h.length) (n := 3) ow4 (Nat.le_refl _) (fun a _ => talr_frz _ h4 _ a)
   simp only [mkRes_one]
   rw [scope_eq rfl (slof_ok hsl fun a _ => talr_ok _ a) (by omega) (fun q hq => ((bel4 q hq).trans (hb3 q hq)).trans (bel1 q hq))]
   exact .some ⟨rfl, hsl⟩
  by_cases hkl : k < l.length
  ·have hg : l[k]? = some l[k] := List.getElem?_eq_getElem hkl
   generalize l[k] = x at hg
   have hkl' : (k : Int) < l.length := by omega
   have hix : dIndexAddr tab ty58 d (.int .i64 (k : Nat)) = some (.fptr (talr x)) := by rw [ixs58 hd]; simp [-bind_some, hg]
   have f0 : dFieldAddr tab ty106 0 (.fptr (talr x)) = some (.fptr (talr x)) := id rfl
   have l0 : dLoad tab h1 ty3 (.fptr (talr x)) = some (.int .i64 x.h) := id rfl
   have f1 : dFieldAddr tab ty106 1 (.fptr (talr x)) = some (.fptr [.str x.r, .int .i64 x.n]) := id rfl
   have l1 : dLoad tab h1 ty9 (.fptr [.str x.r, .int .i64 x.n]) = some (.str x.r) := id rfl
   simp only [hkl', decide_true, gd_bool, if_true, bs, hix, f0, l0, dBin_eql, dPick_bool]
   by_cases hh : x.h = hst
   ·by_cases hr : x.r = rule
    ·have hadd : addK l hst rule n k = l.set k ⟨x.h, x.r, IntKind.wrap .i64 (x.n + n)⟩ := by
       have hc : cmpT x ⟨hst, rule, 0⟩ = 0 := (cmpT_eq _ _).2 ⟨hh, hr⟩
       simp [-bind_some, addK, hg, hc]
     have hrb : (x.r == rule) = true := by simpa using hr
     simp only [hh, decide_true, if_true, hix, f1, l1, bs, dBin_seql, hrb, dPick_bool, dIf_bool, gd_bool]
     obtain ⟨ob, hob, hxe, ho⟩ := own_ix ow1 (i := k) (by simpa using hkl)
     rw [List.length_map] at hxe
     subst hxe
     have hkl2 : (0 : Int) ≤ (k : Int) ∧ (k : Int) < (l.length : Int) := by omega
     have hrr : (l.map talr)[k]? = some (talr x) := by rw [List.getElem?_map, hg]; rfl
     simp only [ixm58, hkl2, and_self, if_true, fap106_2, Int.toNat_natCast, Nat.zero_add, ldp3, row_of ho, hrr, bs]
     simp only [talr, List.drop_succ_cons, List.drop_zero, List.head?_cons, bs, dBin_add]
     refine wst3 (off := 2) (v := .int .i64 (IntKind.wrap .i64 (x.n + n))) ho hrr rfl (by simp [-bind_some, talr]) rfl fun h3 q3 s3 => ?_
     have hset : (l.map talr).set k (spl (talr x) 2 (cells1 (.int .i64 (IntKind.wrap .i64 (x.n + n))))) = (addK l hst rule n k).map talr := by
      rw [hadd, List.map_set]; rfl
     rw [hset] at q3
     have hlen : (addK l hst rule n k).length = l.length := by rw [hadd]; simp [-bind_some]
     have ow : Own h3 h.length ty106 3 ((addK l hst rule n k).map talr) (.msl 3 ob 0 l.length) := .inr ⟨ob, hob, by simp [-bind_some, hlen], q3⟩
     have hsl := own_sl (n0 := h.length) (n := 3) ow (Nat.le_refl _) (fun a _ => talr_frz _ h3 _ a)
     simp only [bs, mkRes_one]
     rw [scope_eq rfl (slof_ok hsl fun a _ => talr_ok _ a) (by have := s3.1; omega) (fun q hq => (s3.2 q (by omega)).trans (bel1 q hq))]
     exact .some ⟨rfl, hsl⟩
    ·have hadd : addK l hst rule n k = l.take k ++ [⟨hst, rule, n⟩] ++ l.drop k := by
       have hc : ¬ cmpT x ⟨hst, rule, 0⟩ = 0 := fun h0 => hr ((cmpT_eq _ _).1 h0).2
       simp [-bind_some, addK, hg, hc, hw0]
     have hrb : (x.r == rule) = false := by simpa using hr
     simp only [hh, decide_true, if_true, hix, f1, l1, bs, dBin_seql, hrb, dPick_bool, dIf_bool, gd_bool, Bool.false_eq_true, if_false]
     exact insert hadd
   ·have hadd : addK l hst rule n k = l.take k ++ [⟨hst, rule, n⟩] ++ l.drop k := by
      have hc : ¬ cmpT x ⟨hst, rule, 0⟩ = 0 := fun h0 => hh ((cmpT_eq _ _).1 h0).1
      simp [-bind_some, addK, hg, hc, hw0]
    simp only [hh, decide_false, gd_bool, Bool.false_eq_true, if_false, bs, dPick_bool, dIf_bool, gd_und]
    exact insert hadd
  ·have hg : l[k]? = none := List.getElem?_eq_none (by omega)
   have hkl' : ¬ (k : Int) < l.length := by omega
   have hadd : addK l hst rule n k = l.take k ++ [⟨hst, rule, n⟩] ++ l.drop k := by simp [-bind_some, addK, hg, hw0]
   simp only [hkl', decide_false, gd_bool, Bool.false_eq_true, if_false, bs, dPick_bool, dIf_bool, gd_und]
   exact insert hadd
def sm (f : Tal → Int) : List Tal → Int
 | [] => 0
 | t :: r => f t + sm f r
theorem s30r (l : List Tal) (da db : D) (h : Hp) (ha : SlOf 3 talr l da) (hb : SlOf 3 talr l db) (hl : l.length ≤ 1000000) : R fn30 [da, db] h = some (.bool true, h) := by
 suffices Wp (R fn30 [da, db] h) (fun p => p = (.bool true, h)) by
  obtain ⟨p, h1, rfl⟩ := this
  exact h1
 rw [e30]
 simp only [F30, bs, Option.bind_assoc, lens58 ha, lens58 hb, dBin_neq, ne_eq, not_true, decide_false, dIf_bool, Bool.false_eq_true, if_false]
 refine Wp.loop (fun n ds g => g = h ∧ ∃ x y z, ∃ i : Nat, ds = [x, .int .i64 i, y, z] ∧ n + i = l.length)
  (fun r => r.1 = .ext 0 ∧ r.2.2 = h) l.length ⟨rfl, _, _, _, 0, rfl, rfl⟩ ?_ ?_
 ·rintro n ds g ⟨rfl, x, y, z, i, rfl, hi⟩
  simp only [F30_L0, nth_zero, nth_succ, bs, Option.bind_assoc, lens58 ha, dBin_lss]
  refine Wp.dif ?_ ?_
  ·intro h0
   have h0 : i < l.length := by have : (i : Int) < l.length := by simpa using h0
                                omega
   have hg : l[i]? = some l[i] := List.getElem?_eq_getElem h0
   generalize l[i] = u at hg
   have ia : dIndexAddr tab ty58 da (.int .i64 i) = some (.fptr (talr u)) := by rw [ixs58 ha]; simp [-bind_some, hg]
   have ib : dIndexAddr tab ty58 db (.int .i64 i) = some (.fptr (talr u)) := by rw [ixs58 hb]; simp [-bind_some, hg]
   have hw : IntKind.wrap .i64 ((i : Int) + 1) = ((i + 1 : Nat) : Int) := by
    rw [wrap_i64 (by omega) (by omega)]; omega
   have hn : dBin tab .neq ty106 (.agg (talr u)) (.agg (talr u)) = some (.bool false) := by
    have := bneq106 u.h u.h u.r u.r u.n u.n
    simpa [-bind_some, talr] using this
   simp only [ia, ib, talr_ld, hn, bs, dIf_bool, Bool.false_eq_true, if_false, dBin_add, hw]
   exact .some (.inl ⟨rfl, n - 1, by omega, rfl, _, _, _, i + 1, rfl, by omega⟩)
  ·intro _
   exact .some (.inr ⟨by simp, rfl, rfl⟩)
 ·rintro ⟨ex, ds, g⟩ ⟨q1, q2⟩
  simp only at q1 q2
  subst q1; subst q2
  simp only [unblk_self, toEnd_nrm, bs, mkRes_one]
  exact .some rfl
def ml (a b : Mrk) : Prop := a.h < b.h ∨ (a.h = b.h ∧ a.f < b.f)
theorem cmpM_lt (a b : Mrk) : cmpM a b < 0 ↔ ml a b := by
 unfold cmpM orI orI orI cmpI ml
 by_cases h1 : a.h < b.h
 ·simp [-bind_some, h1]
 ·by_cases h2 : b.h < a.h
  ·have h3 : ¬ a.h = b.h := by omega
   simp [-bind_some, h1, h2, h3]
  ·have h3 : a.h = b.h := by omega
   by_cases h4 : a.f < b.f
   ·simp [-bind_some, h3, h4]
   ·by_cases h5 : b.f < a.f <;> simp [-bind_some, h3, h4, h5]
theorem cmpM_eq (a b : Mrk) : cmpM a b = 0 ↔ a.h = b.h ∧ a.f = b.f := by
 unfold cmpM orI orI orI cmpI
 by_cases h1 : a.h < b.h
 ·have h3 : ¬ a.h = b.h := by omega
  simp [-bind_some, h1, h3]
 ·by_cases h2 : b.h < a.h
  ·have h3 : ¬ a.h = b.h := by omega
   simp [-bind_some, h1, h2, h3]
  ·have h3 : a.h = b.h := by omega
   by_cases h4 : a.f < b.f
   ·have : ¬ a.f = b.f := by omega
    simp [-bind_some, h3, h4, this]
   ·by_cases h5 : b.f < a.f
    ·have : ¬ a.f = b.f := by omega
     simp [-bind_some, h3, h4, h5, this]
    ·have : a.f = b.f := by omega
     simp [-bind_some, h3, this]
def MAsc (l : List Mrk) : Prop := l.Pairwise ml
def kM (key : Mrk) : List Mrk → Nat
 | [] => 0
 | x :: r => if cmpM x key < 0 then kM key r + 1 else 0
theorem kM_le (key : Mrk) : ∀ l, kM key l ≤ l.length
 | [] => Nat.le_refl _
 | x :: r => by
  unfold kM
  split
  ·have := kM_le key r; simp [-bind_some]; omega
  ·simp [-bind_some]
theorem kM_lt (key : Mrk) : ∀ (l : List Mrk) (i : Nat) (x : Mrk), l[i]? = some x → i < kM key l → cmpM x key < 0
 | y :: r, 0, x, hx, hi => by
  unfold kM at hi
  simp at hx
  subst hx
  split at hi
  ·assumption
  ·omega
 | y :: r, i + 1, x, hx, hi => by
  unfold kM at hi
  simp at hx
  split at hi
  ·exact kM_lt key r i x hx (by omega)
  ·omega
theorem kM_at (key : Mrk) : ∀ (l : List Mrk) (x : Mrk), l[kM key l]? = some x → ¬ cmpM x key < 0
 | y :: r, x, hx => by
  unfold kM at hx
  split at hx
  ·exact kM_at key r x (by simpa using hx)
  ·rename_i hc
   simp at hx
   subst hx
   exact hc
theorem ml_tr {a b c : Mrk} (h : ml a b) (k : ml b c) : ml a c := by
 unfold ml at *
 omega
theorem kM_ge (key : Mrk) : ∀ (l : List Mrk), MAsc l → ∀ (i : Nat) (x : Mrk), l[i]? = some x → kM key l ≤ i → 0 ≤ cmpM x key
 | y :: r, hs, i, x, hx, hi => by
  unfold kM at hi
  have hs' := List.pairwise_cons.1 hs
  split at hi
  ·cases i with
   | zero => omega
   | succ i => exact kM_ge key r hs'.2 i x (by simpa using hx) (by omega)
  ·rename_i hc
   rcases Int.lt_or_le (cmpM x key) 0 with h1 | h1
   ·exfalso
    cases i with
    | zero => simp at hx; subst hx; exact hc h1
    | succ i =>
     have hx' : r[i]? = some x := by simpa using hx
     exact hc ((cmpM_lt _ _).2 (ml_tr (hs'.1 x (List.mem_of_getElem? hx')) ((cmpM_lt _ _).1 h1)))
   ·exact h1
def fndM (l : List Mrk) (key : Mrk) : Bool := match l[kM key l]? with
 | some x => decide (cmpM x key = 0)
 | none => false
def markOf (l : List Mrk) (hst fil : Int) : Int := match l[kM ⟨hst, fil, 0⟩ l]? with
 | some x => if cmpM x ⟨hst, fil, 0⟩ = 0 then x.o else 0
 | none => 0
def mlB (x : Mrk) (hst fil : Int) : Bool := decide (x.h < hst) || (decide (x.h = hst) && decide (x.f < fil))
theorem mlB_lt (x : Mrk) (hst fil : Int) : mlB x hst fil = true ↔ cmpM x ⟨hst, fil, 0⟩ < 0 := by
 rw [cmpM_lt]
 simp [-bind_some, mlB, ml]
theorem b1084 (l : List Mrk) (d : D) (hst fil : Int) (h : Hp) (hd : SlOf 3 mrkr l d) (i : Nat) (x : Mrk) (hi : l[i]? = some x) (hl : l.length ≤ 1000000) (a : D) :
  F1084_L0 d (.int .i64 hst) (.int .i64 fil) [.int .i64 i, a] h = if mlB x hst fil = true then some (.nrm, [.int .i64 ((i + 1 : Nat) : Int), .bool true], h) else some (.ext 0, [.int .i64 i, .bool false], h) := by
 have hlt : i < l.length := (List.getElem?_eq_some_iff.1 hi).1
 have hlt' : (i : Int) < l.length := by omega
 have hw : IntKind.wrap .i64 ((i : Int) + 1) = ((i + 1 : Nat) : Int) := by
  rw [wrap_i64 (by omega) (by omega)]; omega
 have hix : dIndexAddr tab ty1007 d (.int .i64 i) = some (.fptr (mrkr x)) := by rw [ixs1007 hd]; simp [-bind_some, hi]
 by_cases h0 : x.h < hst
 ·simp [-bind_some, F1084_L0, lens1007 hd, hlt', hix, mrkr, mlB, h0, hw]
 ·by_cases h1 : x.h = hst
  ·by_cases h2 : x.f < fil
   ·simp [-bind_some, F1084_L0, lens1007 hd, hlt', hix, mrkr, mlB, h0, h1, h2, hw]
   ·simp [-bind_some, F1084_L0, lens1007 hd, hlt', hix, mrkr, mlB, h0, h1, h2, hw]
  ·simp [-bind_some, F1084_L0, lens1007 hd, hlt', hix, mrkr, mlB, h0, h1, hw]
theorem s1084 (l : List Mrk) (d : D) (hst fil : Int) (h : Hp) (hd : SlOf 3 mrkr l d) (hl : l.length ≤ 1000000) : R fn1084 [d, .int .i64 hst, .int .i64 fil] h = some (.tup [.int .i64 (kM ⟨hst, fil, 0⟩ l : Nat), .bool (fndM l ⟨hst, fil, 0⟩)], h) := by
 suffices Wp (R fn1084 [d, .int .i64 hst, .int .i64 fil] h) (fun p => p = (.tup [.int .i64 (kM ⟨hst, fil, 0⟩ l : Nat), .bool (fndM l ⟨hst, fil, 0⟩)], h)) by
  obtain ⟨p, h1, rfl⟩ := this
  exact h1
 rw [e1084]
 simp only [F1084, bs, Option.bind_assoc]
 have hk := kM_le ⟨hst, fil, 0⟩ l
 have k1 := kM_lt ⟨hst, fil, 0⟩ l
 have k2 := kM_at ⟨hst, fil, 0⟩ l
 unfold fndM
 generalize kM ⟨hst, fil, 0⟩ l = k at hk k1 k2
 refine Wp.loop (fun n ds g => g = h ∧ ∃ a, ∃ i : Nat, ds = [.int .i64 i, a] ∧ n + i = k) (fun r => ∃ b, r = (.ext 0, [.int .i64 (k : Nat), b], h)) k ⟨rfl, _, 0, rfl, rfl⟩ ?_ ?_
 ·rintro n ds g ⟨rfl, a, i, rfl, hi⟩
  by_cases hil : i < l.length
  ·have hg : l[i]? = some l[i] := List.getElem?_eq_getElem hil
   generalize l[i] = x at hg
   rw [b1084 l d hst fil g hd i x hg hl]
   by_cases hc : mlB x hst fil = true
   ·rw [if_pos hc]
    have : i ≠ k := fun hh => by subst hh; exact k2 x hg ((mlB_lt _ _ _).1 hc)
    exact .some (.inl ⟨rfl, n - 1, by omega, rfl, _, i + 1, rfl, by omega⟩)
   ·rw [if_neg hc]
    have : i = k := by
     rcases Nat.lt_or_ge i k with hh | hh
     ·exact absurd ((mlB_lt _ _ _).2 (k1 i x hg hh)) hc
     ·omega
    subst this
    exact .some (.inr ⟨by simp, _, rfl⟩)
  ·have : i = k := by omega
   subst this
   have hn : ¬ (i : Int) < l.length := by omega
   have e : F1084_L0 d (.int .i64 hst) (.int .i64 fil) [.int .i64 i, a] g = some (.ext 0, [.int .i64 i, .bool false], g) := by
    simp [-bind_some, F1084_L0, lens1007 hd, hn]
   rw [e]
   exact .some (.inr ⟨by simp, _, rfl⟩)
 ·rintro _ ⟨b, rfl⟩
  simp only [unblk_self, toEnd_nrm, nth_zero, bs, lens1007 hd, dBin_lss]
  by_cases hkl : k < l.length
  ·have hg : l[k]? = some l[k] := List.getElem?_eq_getElem hkl
   generalize l[k] = x at hg
   have hkl' : (k : Int) < l.length := by omega
   have hix : dIndexAddr tab ty1007 d (.int .i64 (k : Nat)) = some (.fptr (mrkr x)) := by rw [ixs1007 hd]; simp [-bind_some, hg]
   have hc := cmpM_eq x ⟨hst, fil, 0⟩
   by_cases h0 : x.h = hst
   ·by_cases h1 : x.f = fil
    ·have hcc : cmpM x ⟨hst, fil, 0⟩ = 0 := hc.2 ⟨h0, h1⟩
     simp [-bind_some, hkl', hix, mrkr, h0, h1, hg, hcc]
     exact .some rfl
    ·have hcc : ¬ cmpM x ⟨hst, fil, 0⟩ = 0 := fun hh => h1 (hc.1 hh).2
     simp [-bind_some, hkl', hix, mrkr, h0, h1, hg, hcc]
     exact .some rfl
   ·have hcc : ¬ cmpM x ⟨hst, fil, 0⟩ = 0 := fun hh => h0 (hc.1 hh).1
    simp [-bind_some, hkl', hix, mrkr, h0, hg, hcc]
    exact .some rfl
  ·have hg : l[k]? = none := List.getElem?_eq_none (by omega)
   have hkl' : ¬ (k : Int) < l.length := by omega
   simp [-bind_some, hkl', hg]
   exact .some rfl
theorem s1077 (l : List Mrk) (d dt : D) (hst fil : Int) (h : Hp) (hd : SlOf 3 mrkr l d) (hl : l.length ≤ 1000000) : R fn1077 [.agg [d, dt], .int .i64 hst, .int .i64 fil] h = some (.int .i64 (markOf l hst fil), h) := by
 rw [e1077]
 have h84 := s1084 l d hst fil h hd hl
 unfold fndM at h84
 unfold markOf
 generalize kM ⟨hst, fil, 0⟩ l = k at h84
 simp only [F1077, pBoxF_agg, bs, fa1009_0, ld1007, h84, dExtract_tup, List.getElem?_cons_zero, List.getElem?_cons_succ]
 cases hg : l[k]? with
 | none => simp [-bind_some]
 | some x =>
  have hix : dIndexAddr tab ty1007 d (.int .i64 (k : Nat)) = some (.fptr (mrkr x)) := by rw [ixs1007 hd]; simp [-bind_some, hg]
  by_cases hc : cmpM x ⟨hst, fil, 0⟩ = 0
  ·simp [-bind_some, hc, hix, mrkr]
  ·simp [-bind_some, hc]
def countT (l : List Tal) (hst : Int) (rule : Str) : Int := match l[kT ⟨hst, rule, 0⟩ l]? with
 | some x => if cmpT x ⟨hst, rule, 0⟩ = 0 then x.n else 0
 | none => 0
theorem mrkr_frz (n0 : Nat) (h : Hp) (n : Nat) (p : Mrk) : ∀ d ∈ mrkr p, frz n0 h n d = d := by simp [-bind_some, mrkr]
theorem mrkr_ok (n : Nat) (p : Mrk) : ∀ d ∈ mrkr p, Ok n d := by
 intro d hd
 simp [-bind_some, mrkr] at hd
 rcases hd with rfl | rfl | rfl <;> constructor
theorem sorted_ext {α : Type} {lt : α → α → Prop} (irr : ∀ a, ¬ lt a a) (tr : ∀ a b c, lt a b → lt b c → lt a c) : ∀ {l r : List α}, l.Pairwise lt → r.Pairwise lt → (∀ x, x ∈ l ↔ x ∈ r) → l = r
 | [], [], _, _, _ => rfl
 | [], y :: r, _, _, h => by have := (h y).2 (by simp); cases this
 | x :: l, [], _, _, h => by have := (h x).1 (by simp); cases this
 | x :: l, y :: r, hl, hr, h => by
  have hl' := List.pairwise_cons.1 hl
  have hr' := List.pairwise_cons.1 hr
  have hxy : x = y := by
   rcases List.mem_cons.1 ((h x).1 (by simp)) with h1 | h1
   ·exact h1
   ·rcases List.mem_cons.1 ((h y).2 (by simp)) with h2 | h2
    ·exact h2.symm
    ·exact absurd (tr _ _ _ (hl'.1 y h2) (hr'.1 x h1)) (irr _)
  subst hxy
  rw [sorted_ext irr tr hl'.2 hr'.2 fun z => ⟨fun hz => ?_, fun hz => ?_⟩]
  ·rcases List.mem_cons.1 ((h z).1 (by simp [-bind_some, hz])) with h1 | h1
   ·subst h1; exact absurd (hl'.1 z hz) (irr _)
   ·exact h1
  ·rcases List.mem_cons.1 ((h z).2 (by simp [-bind_some, hz])) with h1 | h1
   ·subst h1; exact absurd (hr'.1 z hz) (irr _)
   ·exact h1
theorem ml_irr (a : Mrk) : ¬ ml a a := by unfold ml; omega
theorem kl_irr (a : Tal) : ¬ kl a a := by
 unfold kl
 rintro (h | ⟨_, h⟩)
 ·omega
 ·rw [bL_irr] at h; cases h
theorem masc_ext {l r : List Mrk} (hl : MAsc l) (hr : MAsc r) (h : ∀ x, x ∈ l ↔ x ∈ r) : l = r := sorted_ext ml_irr (fun _ _ _ => ml_tr) hl hr h
theorem tasc_ext {l r : List Tal} (hl : TAsc l) (hr : TAsc r) (h : ∀ x, x ∈ l ↔ x ∈ r) : l = r := sorted_ext kl_irr (fun _ _ _ => kl_tr) hl hr h
def setM (l : List Mrk) (m : Mrk) : List Mrk := if fndM l m = true then l.set (kM m l) m else l.take (kM m l) ++ [m] ++ l.drop (kM m l)
theorem kM_key (a b : Mrk) (h1 : a.h = b.h) (h2 : a.f = b.f) : ∀ l, kM a l = kM b l
 | [] => rfl
 | x :: r => by
  have : cmpM x a = cmpM x b := by unfold cmpM; rw [h1, h2]
  unfold kM
  rw [this, kM_key a b h1 h2 r]
theorem cmpM_key (x a b : Mrk) (h1 : a.h = b.h) (h2 : a.f = b.f) : cmpM x a = cmpM x b := by unfold cmpM; rw [h1, h2]
theorem masc_key : ∀ {l : List Mrk}, MAsc l → ∀ {x y : Mrk}, x ∈ l → y ∈ l → x.h = y.h → x.f = y.f → x = y
 | z :: r, h, x, y, hx, hy, h1, h2 => by
  have h' := List.pairwise_cons.1 h
  rcases List.mem_cons.1 hx with e1 | k1
  ·rcases List.mem_cons.1 hy with e2 | k2
   ·rw [e1, e2]
   ·have := h'.1 y k2
    rw [← e1] at this
    unfold ml at this; omega
  ·rcases List.mem_cons.1 hy with e2 | k2
   ·have := h'.1 x k1
    rw [← e2] at this
    unfold ml at this; omega
   ·exact masc_key h'.2 k1 k2 h1 h2
theorem tasc_key : ∀ {l : List Tal}, TAsc l → ∀ {x y : Tal}, x ∈ l → y ∈ l → x.h = y.h → x.r = y.r → x = y
 | z :: r, h, x, y, hx, hy, h1, h2 => by
  have h' := List.pairwise_cons.1 h
  have no : ∀ a b : Tal, kl a b → a.h = b.h → a.r = b.r → False := fun a b hk e1 e2 => by
   have := (cmpT_lt a b).2 hk
   have := (cmpT_eq a b).2 ⟨e1, e2⟩
   omega
  rcases List.mem_cons.1 hx with e1 | k1
  ·rcases List.mem_cons.1 hy with e2 | k2
   ·rw [e1, e2]
   ·have := h'.1 y k2
    rw [← e1] at this
    exact (no _ _ this h1 h2).elim
  ·rcases List.mem_cons.1 hy with e2 | k2
   ·have := h'.1 x k1
    rw [← e2] at this
    exact (no _ _ this h1.symm h2.symm).elim
   ·exact tasc_key h'.2 k1 k2 h1 h2
theorem kM_take (m : Mrk) (l : List Mrk) : ∀ x ∈ l.take (kM m l), ml x m := by
 intro x hx
 obtain ⟨i, hi⟩ := List.getElem?_of_mem hx
 have hlt := (List.getElem?_eq_some_iff.1 hi).1
 rw [List.length_take] at hlt
 rw [List.getElem?_take, if_pos (by omega)] at hi
 exact (cmpM_lt _ _).1 (kM_lt m l i x hi (by omega))
theorem kM_drop (m : Mrk) (l : List Mrk) (hs : MAsc l) : ∀ x ∈ l.drop (kM m l), ¬ ml x m := by
 intro x hx
 obtain ⟨i, hi⟩ := List.getElem?_of_mem hx
 rw [List.getElem?_drop] at hi
 have := kM_ge m l hs _ x hi (by omega)
 intro h
 have := (cmpM_lt _ _).2 h
 omega
theorem ml_tot {a b : Mrk} (h : ¬ ml a b) (k : ¬ (a.h = b.h ∧ a.f = b.f)) : ml b a := by
 unfold ml at *
 omega
theorem fndM_iff (l : List Mrk) (m : Mrk) (hs : MAsc l) : fndM l m = true ↔ ∃ x ∈ l, x.h = m.h ∧ x.f = m.f := by
 unfold fndM
 constructor
 ·intro h
  cases hg : l[kM m l]? with
  | none => rw [hg] at h; cases h
  | some x =>
   rw [hg] at h
   have h : cmpM x m = 0 := by simpa using h
   exact ⟨x, List.mem_of_getElem? hg, (cmpM_eq _ _).1 h⟩
 ·rintro ⟨x, hx, h1, h2⟩
  have hx' : x ∈ l.drop (kM m l) := by
   rw [← List.take_append_drop (kM m l) l] at hx
   rcases List.mem_append.1 hx with h | h
   ·have := kM_take m l x h; unfold ml at this; omega
   ·exact h
  obtain ⟨i, hi⟩ := List.getElem?_of_mem hx'
  rw [List.getElem?_drop] at hi
  cases hg : l[kM m l]? with
  | none =>
   have := List.getElem?_eq_none_iff.1 hg
   have := (List.getElem?_eq_some_iff.1 hi).1
   omega
  | some y =>
   have hc : cmpM y m = 0 := by
    have hy := kM_at m l y hg
    rcases Nat.eq_zero_or_pos i with rfl | hi0
    ·rw [Nat.add_zero, hg] at hi
     injection hi with hi
     subst hi
     exact (cmpM_eq _ _).2 ⟨h1, h2⟩
    ·exfalso
     have hlt : ml y x := by
      obtain ⟨g1, g2⟩ := List.getElem?_eq_some_iff.1 hg
      obtain ⟨g3, g4⟩ := List.getElem?_eq_some_iff.1 hi
      have := List.pairwise_iff_getElem.1 hs _ _ g1 g3 (by omega)
      rw [g2, g4] at this
      exact this
     exact hy ((cmpM_lt _ _).2 (by unfold ml at hlt ⊢; omega))
   simp [-bind_some, hc]
theorem setM_mem (l : List Mrk) (m : Mrk) (hs : MAsc l) (x : Mrk) : x ∈ setM l m ↔ x = m ∨ (x ∈ l ∧ ¬ (x.h = m.h ∧ x.f = m.f)) := by
 unfold setM
 by_cases hf : fndM l m = true
 ·rw [if_pos hf]
  unfold fndM at hf
  cases hg : l[kM m l]? with
  | none => rw [hg] at hf; cases hf
  | some y =>
   rw [hg] at hf
   have hy : cmpM y m = 0 := by simpa using hf
   have hy := (cmpM_eq _ _).1 hy
   have hk : kM m l < l.length := (List.getElem?_eq_some_iff.1 hg).1
   constructor
   ·intro hx
    obtain ⟨i, hi⟩ := List.getElem?_of_mem hx
    rw [List.getElem?_set] at hi
    split at hi
    ·rename_i heq
     left
     subst heq
     simp [-bind_some, hk] at hi
     exact hi.symm
    ·rename_i hne
     by_cases hkey : x.h = m.h ∧ x.f = m.f
     ·exfalso
      obtain ⟨g1, g2⟩ := List.getElem?_eq_some_iff.1 hg
      obtain ⟨g3, g4⟩ := List.getElem?_eq_some_iff.1 hi
      rcases Nat.lt_or_gt_of_ne hne with hlt | hlt
      ·have := List.pairwise_iff_getElem.1 hs _ _ g1 g3 hlt
       rw [g2, g4] at this; unfold ml at this; omega
      ·have := List.pairwise_iff_getElem.1 hs _ _ g3 g1 hlt
       rw [g2, g4] at this; unfold ml at this; omega
     ·exact .inr ⟨List.mem_of_getElem? hi, hkey⟩
   ·rintro (rfl | ⟨hx, hkey⟩)
    ·exact List.mem_iff_getElem?.2 ⟨kM x l, by rw [List.getElem?_set_self hk]⟩
    ·obtain ⟨i, hi⟩ := List.getElem?_of_mem hx
     refine List.mem_iff_getElem?.2 ⟨i, ?_⟩
     rw [List.getElem?_set_ne]
     ·exact hi
     ·rintro rfl
      rw [hg] at hi
      injection hi with hi
      subst hi
      exact hkey hy
 ·rw [if_neg hf]
  have hn : ∀ y ∈ l, ¬ (y.h = m.h ∧ y.f = m.f) := fun y hy hk => hf ((fndM_iff l m hs).2 ⟨y, hy, hk⟩)
  constructor
  ·intro hx
   simp only [List.mem_append, List.mem_singleton] at hx
   rcases hx with (hx | hx) | hx
   ·have := List.mem_of_mem_take hx
    exact .inr ⟨this, hn x this⟩
   ·exact .inl hx
   ·have := List.mem_of_mem_drop hx
    exact .inr ⟨this, hn x this⟩
  ·rintro (rfl | ⟨hx, _⟩)
   ·simp [-bind_some]
   ·rw [← List.take_append_drop (kM m l) l] at hx
    rcases List.mem_append.1 hx with h | h
    ·simp [-bind_some, h]
    ·simp [-bind_some, h]
theorem setM_asc (l : List Mrk) (m : Mrk) (hs : MAsc l) : MAsc (setM l m) := by
 unfold setM
 by_cases hf : fndM l m = true
 ·rw [if_pos hf]
  unfold fndM at hf
  cases hg : l[kM m l]? with
  | none => rw [hg] at hf; cases hf
  | some y =>
   rw [hg] at hf
   have hy : cmpM y m = 0 := by simpa using hf
   have hy := (cmpM_eq _ _).1 hy
   unfold MAsc at *
   rw [List.pairwise_iff_getElem] at hs ⊢
   obtain ⟨g1, g2⟩ := List.getElem?_eq_some_iff.1 hg
   intro i j hi hj hij
   simp only [List.length_set] at hi hj
   have := hs i j hi hj hij
   simp only [List.getElem_set]
   split <;> split
   ·omega
   ·rename_i h1 h2; subst h1; rw [g2] at this; unfold ml at this ⊢; omega
   ·rename_i h1 h2; subst h2; rw [g2] at this; unfold ml at this ⊢; omega
   ·exact this
 ·rw [if_neg hf]
  unfold MAsc at *
  have h1 := kM_take m l
  have h2 := kM_drop m l hs
  have hn : ∀ y ∈ l, ¬ (y.h = m.h ∧ y.f = m.f) := fun y hy hk => hf ((fndM_iff l m hs).2 ⟨y, hy, hk⟩)
  have h3 : ∀ x ∈ l.drop (kM m l), ml m x := fun x hx => ml_tot (h2 x hx) (hn x (List.mem_of_mem_drop hx))
  rw [List.append_assoc, List.pairwise_append]
  refine ⟨hs.sublist (List.take_sublist _ _), List.pairwise_cons.2 ⟨h3, hs.sublist (List.drop_sublist _ _)⟩, fun a ha b hb => ?_⟩
  rcases List.mem_cons.1 hb with rfl | hb
  ·exact h1 a ha
  ·exact ml_tr (h1 a ha) (h3 b hb)
theorem setM_len (l : List Mrk) (m : Mrk) : (setM l m).length ≤ l.length + 1 := by
 have := kM_le m l
 unfold setM
 split <;> simp [-bind_some] <;> omega
theorem markOf_eq (l : List Mrk) (hs : MAsc l) (h f : Int) : (∃ x ∈ l, x.h = h ∧ x.f = f ∧ markOf l h f = x.o) ∨ ((∀ x ∈ l, ¬ (x.h = h ∧ x.f = f)) ∧ markOf l h f = 0) := by
 by_cases hf : fndM l ⟨h, f, 0⟩ = true
 ·left
  unfold fndM at hf
  unfold markOf
  cases hg : l[kM ⟨h, f, 0⟩ l]? with
  | none => rw [hg] at hf; cases hf
  | some y =>
   rw [hg] at hf
   have hy : cmpM y ⟨h, f, 0⟩ = 0 := by simpa using hf
   have hk := (cmpM_eq _ _).1 hy
   exact ⟨y, List.mem_of_getElem? hg, hk.1, hk.2, by simp [-bind_some, hy]⟩
 ·right
  refine ⟨fun x hx hk => hf ((fndM_iff l _ hs).2 ⟨x, hx, hk⟩), ?_⟩
  unfold fndM at hf
  unfold markOf
  cases hg : l[kM ⟨h, f, 0⟩ l]? with
  | none => rfl
  | some y =>
   rw [hg] at hf
   have hy : ¬ cmpM y ⟨h, f, 0⟩ = 0 := by simpa using hf
   simp [-bind_some, hy]
theorem it_good {hst fil fr : Int} {i : It} (hi : ItOK hst fil fr i) (h0 : 0 ≤ hst) (h9 : hst ≤ 999) (f0 : 0 ≤ fil) (f9 : fil ≤ 1000) (r0 : 0 ≤ fr) (r9 : fr ≤ 50000) : (i.r = [] ∧ EvGood i.e) ∨ SkGood i := by
 have c1 := chain_le _ _ _ hi.ch
 have hn3 := hi.n3
 have hn1 := hi.n1
 have pl : PlOK i.e := ⟨by rw [hi.host]; exact h0, by rw [hi.host]; exact h9, by rw [hi.file]; exact f0, by rw [hi.file]; omega, by rw [hi.fr]; omega, by rw [hi.fr]; omega, by omega⟩
 have ch : chain i.e.a2 i.e.ls i.e.a3 := by rw [hi.fr]; exact hi.ch
 by_cases hr : i.r = []
 ·left
  obtain ⟨e1, e2, e3, e4, e5, e6, e7, e8⟩ := hi.ev hr
  have hfl : i.e.fs.length ≤ 4 := by
   have := e7.1.length_le
   simpa using this
  exact ⟨hr, pl, e1, e2, e3, e4, hi.wt hr, hn1, by omega, ch, (show ∀ s ∈ lt98_5, s.length ≤ 32 by decide) _ e5, (show ∀ s ∈ lt98_6, s.length ≤ 32 by decide) _ e6, by omega, fn_of e7.1, asc_of e7.1, fun p hp => by have := e7.2 p hp; omega⟩
 ·right
  obtain ⟨e1, e2, e3, e4, e5, e6, e7⟩ := hi.sk hr
  exact ⟨hr, (show ∀ s ∈ lt98_4, s.length ≤ 32 by decide) _ e1, pl, hn1, by omega, ch, e2, e3, e4, e5, e6, e7⟩
structure BIt (hst : Int) (i : It) : Prop where
 host : i.e.a0 = hst
 f5 : 5 ≤ i.e.a1
 f7 : i.e.a1 ≤ 7
 r0 : 0 ≤ i.e.a2
 r9 : i.e.a2 ≤ 50000
 ch : chain i.e.a2 i.e.ls i.e.a3
 n1 : 1 ≤ i.e.ls.length
 n6 : i.e.ls.length ≤ 6
 rule : i.r = [] ∨ i.r ∈ lt98_4
 fs : i.e.fs.length ≤ 4
 good : (i.r = [] ∧ EvGood i.e) ∨ SkGood i
theorem bit_of {hst fil fr : Int} {i : It} (hi : ItOK hst fil fr i) (h0 : 0 ≤ hst) (h9 : hst ≤ 999) (f5 : 5 ≤ fil) (f7 : fil ≤ 7) (r0 : 0 ≤ fr) (r9 : fr ≤ 50000) : BIt hst i := by
 have hn3 := hi.n3
 refine ⟨hi.host, by rw [hi.file]; exact f5, by rw [hi.file]; exact f7, by rw [hi.fr]; exact r0, by rw [hi.fr]; exact r9, by rw [hi.fr]; exact hi.ch, hi.n1, by omega, ?_, ?_, it_good hi h0 h9 (by omega) (by omega) r0 r9⟩
 ·by_cases hr : i.r = []
  ·exact .inl hr
  ·exact .inr (hi.sk hr).1
 ·by_cases hr : i.r = []
  ·have := (hi.ev hr).2.2.2.2.2.2.1.1.length_le
   simpa using this
  ·rw [(hi.sk hr).2.2.2.2.2.1]; simp [-bind_some]
structure TogOf (a b j : It) : Prop where
 r : j.r = b.r
 a0 : j.e.a0 = b.e.a0
 a1 : j.e.a1 = b.e.a1
 a2 : j.e.a2 = a.e.a2
 a3 : j.e.a3 = b.e.a3
 a5 : j.e.a5 = b.e.a5
 a6 : j.e.a6 = b.e.a6
 s7 : j.e.s7 = b.e.s7
 s8 : j.e.s8 = b.e.s8
 ls : j.e.ls = if b.r = [] then a.e.ls ++ b.e.ls else (a.e.ls ++ b.e.ls).map blank
 fs : j.e.fs = b.e.fs
theorem chain_app : ∀ (ls rs : List Lin) (a b c : Int), chain a ls b → chain b rs c → chain a (ls ++ rs) c
 | [], rs, a, b, c, h, k => by simp only [chain] at h; subst h; exact k
 | x :: ls, rs, a, b, c, h, k => ⟨h.1, h.2.1, h.2.2.1, h.2.2.2.1, chain_app ls rs _ b c h.2.2.2.2 k⟩
theorem bit_tog {hst fil fr fb : Int} {a b j : It} (ha : ItOK hst fil fr a) (hb : ItOK hst fil fb b) (hab : a.e.a3 = fb) (h0 : 0 ≤ hst) (h9 : hst ≤ 999) (f5 : 5 ≤ fil) (f7 : fil ≤ 7) (r0 : 0 ≤ fr) (r9 : fr ≤ 40000) (hj : TogOf a b j) : BIt hst j := by
 have na1 := ha.n1
 have na3 := ha.n3
 have nb1 := hb.n1
 have nb3 := hb.n3
 have ca := chain_le _ _ _ ha.ch
 have cb := chain_le _ _ _ hb.ch
 have hll : j.e.ls.length = a.e.ls.length + b.e.ls.length := by
  rw [hj.ls]; split <;> simp [-bind_some]
 have ch0 : chain a.e.a2 (a.e.ls ++ b.e.ls) b.e.a3 := by
  rw [ha.fr]
  exact chain_app _ _ _ _ _ ha.ch (by rw [hab]; exact hb.ch)
 have ch : chain j.e.a2 j.e.ls j.e.a3 := by
  rw [hj.a2, hj.a3, hj.ls]
  split
  ·exact ch0
  ·exact chain_blank _ _ _ ch0
 have pl : PlOK j.e := ⟨by rw [hj.a0, hb.host]; exact h0, by rw [hj.a0, hb.host]; exact h9, by rw [hj.a1, hb.file]; omega, by rw [hj.a1, hb.file]; omega, by rw [hj.a2, ha.fr]; omega, by rw [hj.a2, hj.a3, ha.fr]; omega, by rw [hj.a3]; omega⟩
 have hbb := bit_of hb h0 h9 f5 f7 (by omega) (by omega)
 refine ⟨by rw [hj.a0, hb.host], by rw [hj.a1, hb.file]; exact f5, by rw [hj.a1, hb.file]; exact f7, by rw [hj.a2, ha.fr]; exact r0, by rw [hj.a2, ha.fr]; omega, ch, by omega, by omega, by rw [hj.r]; exact hbb.rule, by rw [hj.fs]; exact hbb.fs, ?_⟩
 by_cases hr : b.r = []
 ·left
  obtain ⟨e1, e2, e3, e4, e5, e6, e7, e8⟩ := hb.ev hr
  have hfl := hbb.fs
  exact ⟨by rw [hj.r, hr], pl, by rw [hj.a5]; exact e1, by rw [hj.a5]; exact e2, by rw [hj.a6]; exact e3, by rw [hj.a6]; exact e4, by rw [hj.a6]; exact hb.wt hr, by omega, by omega, ch, by rw [hj.s7]; exact (show ∀ s ∈ lt98_5, s.length ≤ 32 by decide) _ e5, by rw [hj.s8]; exact (show ∀ s ∈ lt98_6, s.length ≤ 32 by decide) _ e6, by rw [hj.fs]; omega, by rw [hj.fs]; exact fn_of e7.1, by rw [hj.fs]; exact asc_of e7.1, by rw [hj.fs]; exact fun p hp => by have := e7.2 p hp; omega⟩
 ·right
  obtain ⟨e1, e2, e3, e4, e5, e6, e7⟩ := hb.sk hr
  exact ⟨by rw [hj.r]; exact hr, by rw [hj.r]; exact (show ∀ s ∈ lt98_4, s.length ≤ 32 by decide) _ e1, pl, by omega, by omega, ch, by rw [hj.a5]; exact e2, by rw [hj.a6]; exact e3, by rw [hj.s7]; exact e4, by rw [hj.s8]; exact e5, by rw [hj.fs]; exact e6, by
   rw [hj.ls, if_neg hr]
   intro l hl
   obtain ⟨x, _, rfl⟩ := List.mem_map.1 hl
   rfl⟩
theorem items_get (hst fil : Int) : ∀ (l : List It) (a b : Int), items hst fil a l b → ∀ (k : Nat) (i : It), l[k]? = some i → ∃ f, ItOK hst fil f i ∧ a ≤ f ∧ f ≤ a + 108 * k ∧ ∀ j, l[k + 1]? = some j → ItOK hst fil i.e.a3 j
 | [], _, _, _, k, i, hi => by simp at hi
 | x :: r, a, b, h, 0, i, hi => by
  simp at hi
  subst hi
  refine ⟨a, h.1, by omega, by omega, fun j hj => ?_⟩
  cases r with
  | nil => simp at hj
  | cons y r => simp at hj; subst hj; exact h.2.1
 | x :: r, a, b, h, k + 1, i, hi => by
  obtain ⟨f, h1, h2, h3, h4⟩ := items_get hst fil r _ b h.2 k i (by simpa using hi)
  have c := chain_le _ _ _ h.1.ch
  have := h.1.n3
  exact ⟨f, h1, by omega, by push_cast; omega, fun j hj => h4 j (by simpa using hj)⟩
def togR (b : Bool) (l : List Lin) (k : Nat) : List Lin := if b = true then (l.take k).map blank ++ l.drop k else l
theorem togR_len (b : Bool) (l : List Lin) (k : Nat) (hk : k ≤ l.length) : (togR b l k).length = l.length := by
 unfold togR
 split
 ·simp [-bind_some]; omega
 ·rfl
theorem s1093 (a b : It) (h : Hp) (hla : a.e.ls.length ≤ 1000) (hlb : b.e.ls.length ≤ 1000) (hn : 1 ≤ a.e.ls.length) : ∃ j, R fn1093 [.agg (itr a), .agg (itr b)] h = some (.agg (itr j), h) ∧ TogOf a b j := by
 suffices Wp (R fn1093 [.agg (itr a), .agg (itr b)] h) (fun p => p.2 = h ∧ ∃ j, p.1 = .agg (itr j) ∧ TogOf a b j) by
  obtain ⟨⟨x, h'⟩, h1, rfl, j, rfl, h2⟩ := this
  exact ⟨j, h1, h2⟩
 rw [e1093]
 have q4 : ∀ i : It, dFieldAddr tab ty31 4 (.fptr (evr i.e)) = some (.fptr [i.e.ld, .int .i64 i.e.a5, .int .i64 i.e.a6, .str i.e.s7, .str i.e.s8, i.e.fd]) := fun i => id rfl
 have q2 : ∀ i : It, dFieldAddr tab ty31 2 (.fptr (evr i.e)) = some (.fptr [.int .i64 i.e.a2, .int .i64 i.e.a3, i.e.ld, .int .i64 i.e.a5, .int .i64 i.e.a6, .str i.e.s7, .str i.e.s8, i.e.fd]) := fun i => id rfl
 generalize hZ : ([.str [], .int .i64 0, .int .i64 0, .int .i64 0, .int .i64 0, .nils, .int .i64 0, .int .i64 0, .str [], .str [], .nils] : List D) = Z
 have hZl : Z.length = 11 := by subst hZ; rfl
 simp only [F1093, bs, pBoxF_agg, ldIt, hZ, Option.bind_assoc, itF1, q2, q4, ld3, ld28]
 have hl0 : (dNew h ty74 11 [Z]).length = h.length + 1 := by simp [-bind_some, dNew]
 have p8 : (dNew (dNew h ty74 11 [Z]) ty74 11 [Z])[h.length]? = some (.row ty74 11 [Z]) := by
  rw [dNew_old _ _ _ _ (by omega)]; exact dNew_get _ _ _ _
 have p9 : (dNew (dNew h ty74 11 [Z]) ty74 11 [Z])[h.length + 1]? = some (.row ty74 11 [Z]) := by
  rw [← hl0]; exact dNew_get _ _ _ _
 have hb : ∀ q, q < h.length → (dNew (dNew h ty74 11 [Z]) ty74 11 [Z])[q]? = h[q]? := fun q hq => by
  rw [dNew_old _ _ _ _ (by omega), dNew_old _ _ _ _ hq]
 have hgl : (dNew (dNew h ty74 11 [Z]) ty74 11 [Z]).length = h.length + 2 := by simp [-bind_some, dNew]
 rw [hl0]
 generalize dNew (dNew h ty74 11 [Z]) ty74 11 [Z] = g0 at p8 p9 hb hgl
 refine wst74 p9 (by rfl) (by rfl) (by rw [hZl]; exact Nat.le_refl _) (by rfl) fun g1 k9 s1 => ?_
 replace k9 : g1[h.length + 1]? = some (.row ty74 11 [itr b]) := by
  rw [k9]; subst hZ; rfl
 simp only [fap74_1, fap31_2, fap31_4, Nat.zero_add, bs]
 refine wst3 k9 (by rfl) (by rfl) (by simp [-bind_some, itr, evr]) (by rfl) fun g2 k9 s2 => ?_
 try simp only [bs]
 refine wst28 k9 (by rfl) (by rfl) (by simp [-bind_some, itr, evr, spl, cells1]) (by rfl) fun g3 k9 s3 => ?_
 replace k9 : g3[h.length + 1]? = some (.row ty74 11 [[.str b.r, .int .i64 b.e.a0, .int .i64 b.e.a1, .int .i64 a.e.a2, .int .i64 b.e.a3, .nils, .int .i64 b.e.a5, .int .i64 b.e.a6, .str b.e.s7, .str b.e.s8, b.e.fd]]) := k9
 have s13q := (s1.trans s2).trans s3
 replace p8 := (s13q.2 h.length (by omega)).trans p8
 replace hb : ∀ q, q < h.length → g3[q]? = h[q]? := fun q hq => (s13q.2 q (by omega)).trans (hb q hq)
 have hgl3 : g3.length = h.length + 2 := by rw [s13q.1, hgl]
 clear s1 s2 s3 s13q p9 hgl
 try simp only [bs]
 refine wap28 (n0 := h.length + 2) (by omega) (Own.nils _ _ _ _) (slof_rows _ a.e.hld) (by simp; omega) fun x1 g4 ow1 len1 bel1 _ _ => ?_
 rw [List.nil_append] at ow1
 try simp only [bs]
 refine wap28 (n0 := h.length + 2) (by omega) ow1 (slof_rows _ b.e.hld) (by simp; omega) fun x2 g5 ow2 len2 bel2 _ _ => ?_
 rw [← List.map_append] at ow2
 have hbel : ∀ q, q < h.length + 2 → g5[q]? = g3[q]? := fun q hq => (bel2 q hq).trans (bel1 q hq)
 replace k9 := (hbel _ (by omega)).trans k9
 replace p8 := (hbel _ (by omega)).trans p8
 replace hb : ∀ q, q < h.length → g5[q]? = h[q]? := fun q hq => (hbel q (by omega)).trans (hb q hq)
 have hgl5 : h.length + 2 ≤ g5.length := by omega
 clear hbel bel1 bel2 ow1 len1 len2
 generalize hL : a.e.ls ++ b.e.ls = L at ow2
 have hLl : L.length = a.e.ls.length + b.e.ls.length := by rw [← hL]; simp [-bind_some]
 obtain ⟨ob, hob, rfl, hgo⟩ := own_ix ow2 (i := 0) (by simp; omega)
 simp only [List.length_map] at *
 refine Wp.chk trivial ?_
 try simp only [bs, Option.bind_assoc]
 generalize hB : (!(b.r == ([] : Str))) = B
 refine Wp.loop (fun n ds g => ∃ (k : Nat) (u v y : D), ds = [.int .i64 k, u, v] ∧ n + k = L.length ∧ h.length + 2 ≤ g.length ∧ (∀ q, q < h.length → g[q]? = h[q]?) ∧ g[h.length]? = some (.row ty74 11 [Z]) ∧
   g[h.length + 1]? = some (.row ty74 11 [[.str b.r, .int .i64 b.e.a0, .int .i64 b.e.a1, .int .i64 a.e.a2, .int .i64 b.e.a3, y, .int .i64 b.e.a5, .int .i64 b.e.a6, .str b.e.s7, .str b.e.s8, b.e.fd]]) ∧
   g[ob]? = some (.row ty78 3 ((togR B L k).map linr)) ∧ Own g (h.length + 2) ty78 3 (((togR B L k).take k).map linr) y ∧ ¬ y.inOb ob)
  (fun r => r.1 = .ext 0 ∧ ∃ y, h.length + 2 ≤ r.2.2.length ∧ (∀ q, q < h.length → r.2.2[q]? = h[q]?) ∧ r.2.2[h.length]? = some (.row ty74 11 [Z]) ∧
   r.2.2[h.length + 1]? = some (.row ty74 11 [[.str b.r, .int .i64 b.e.a0, .int .i64 b.e.a1, .int .i64 a.e.a2, .int .i64 b.e.a3, y, .int .i64 b.e.a5, .int .i64 b.e.a6, .str b.e.s7, .str b.e.s8, b.e.fd]]) ∧
   Own r.2.2 (h.length + 2) ty78 3 ((togR B L L.length).map linr) y) L.length
  ⟨0, _, _, .nils, rfl, rfl, hgl5, hb, p8, k9, by rw [hgo]; unfold togR; split <;> simp [-bind_some], by simpa using Own.nils _ _ _ _, by rintro ⟨_, _, hh⟩; cases hh⟩ ?_ ?_
 ·rintro n ds g ⟨k, u, v, y, rfl, hk, hgl, hb, p8, k9, ho, ow, hny⟩
  have hlen : (togR B L k).length = L.length := togR_len _ _ _ (by omega)
  simp only [F1093_L0, nth_zero, nth_succ, bs, Option.bind_assoc, lenm28, dBin_lss, itF0, itL0, dBin_sneq, hB]
  refine Wp.dif ?_ ?_
  ·intro h0
   have h0 : k < L.length := by have : (k : Int) < L.length := by simpa using h0
                                omega
   have hkl : (0 : Int) ≤ (k : Int) ∧ (k : Int) < (L.length : Int) := by omega
   have hw : IntKind.wrap .i64 ((k : Int) + 1) = ((k + 1 : Nat) : Int) := by
    rw [wrap_i64 (by omega) (by omega)]; omega
   refine Wp.join (P := fun r => ∃ g', r = (.nrm, [], g') ∧ h.length + 2 ≤ g'.length ∧ (∀ q, q < h.length → g'[q]? = h[q]?) ∧ g'[h.length]? = some (.row ty74 11 [Z]) ∧
    g'[h.length + 1]? = some (.row ty74 11 [[.str b.r, .int .i64 b.e.a0, .int .i64 b.e.a1, .int .i64 a.e.a2, .int .i64 b.e.a3, y, .int .i64 b.e.a5, .int .i64 b.e.a6, .str b.e.s7, .str b.e.s8, b.e.fd]]) ∧
    g'[ob]? = some (.row ty78 3 ((togR B L (k + 1)).map linr)) ∧ Own g' (h.length + 2) ty78 3 (((togR B L k).take k).map linr) y) ?_ ?_ ?_
   ·intro hbt
    subst hbt
    have hT : ∀ k, togR true L k = (L.take k).map blank ++ L.drop k := fun k => rfl
    simp only [ixm28, hkl, and_self, if_true, bs, fap78_2, Nat.zero_add, Int.toNat_natCast]
    refine wst9 ho (by rw [hT]; exact get_blank L k h0) (by rfl) (by simp [-bind_some, linr]) (by rfl) fun g' q s => ?_
    have hset : ((togR true L k).map linr).set k (spl (linr L[k]) 2 (cells1 (.str []))) = (togR true L (k + 1)).map linr := by
     rw [hT, hT]; exact set_blank L k h0
    rw [hset] at q
    exact .some ⟨g', rfl, by have := s.1; omega, fun q hq => (s.2 q (by omega)).trans (hb q hq), (s.2 _ (by omega)).trans p8, (s.2 _ (by omega)).trans k9, q, ow.keep fun q hq hin => s.2 q fun hh => hny (hh ▸ hin)⟩
   ·intro hbf
    subst hbf
    exact .some ⟨g, rfl, hgl, hb, p8, k9, ho, ow⟩
   rintro _ ⟨g', rfl, hgl, hb, p8, k9, ho, ow⟩
   have hx : (togR B L (k + 1))[k]? = some ((togR B L (k + 1))[k]'(by rw [togR_len _ _ _ (by omega)]; omega)) := List.getElem?_eq_getElem _
   generalize (togR B L (k + 1))[k]'(by rw [togR_len _ _ _ (by omega)]; omega) = x at hx
   have hxr : ((togR B L (k + 1)).map linr)[k]? = some (linr x) := by rw [List.getElem?_map, hx]; rfl
   have hld : dLoad tab g' ty78 (.ptr ob k 0) = some (.agg (linr x)) := by
    rw [ldp78, row_of ho, hxr]; rfl
   have hbs : pLitF tab ty28 1 [0] [.agg (linr x)] = some (.sl 3 true [linr x]) := id rfl
   simp only [toEnd_nrm, fap74_1, fap31_4, Nat.zero_add, ldp28, row_of k9, List.getElem?_cons_zero, bs, List.drop_succ_cons, List.drop_zero, List.head?_cons, ixm28, hkl, and_self, if_true, Int.toNat_natCast, hld, hbs]
   have htl : ((togR B L k).take k).length ≤ 2000 := by simp; omega
   refine wap28 (n0 := h.length + 2) hgl ow (rowsOf_sl _ _ _ _) (by simp at htl ⊢; omega) fun y' g'' ow' len' bel' keep' fre' => ?_
   try simp only [bs]
   have oc := one_cells (own_one ow')
   refine wst28 ((bel' (h.length + 1) (by omega)).trans k9) (by rfl) (by rw [oc.1]; rfl) (by simp) oc.2 fun g3 q3 t3 => ?_
   rw [oc.1] at q3
   have holt := (List.getElem?_eq_some_iff.1 ho).1
   have ho2 : h.length + 2 ≤ ob := hob
   have htk : ((togR B L k).take k).map linr ++ [linr x] = ((togR B L (k + 1)).take (k + 1)).map linr := by
    have e1 : (togR B L k).take k = (togR B L (k + 1)).take k := by
     unfold togR
     split
     ·rw [List.take_append_of_le_length (by simp; omega), List.take_append_of_le_length (by simp; omega), ← List.map_take, ← List.map_take, List.take_take, List.take_take]
      congr 2; omega
     ·rfl
    rw [e1, List.take_add_one, hx]
    simp [-bind_some]
   rw [htk] at ow'
   simp only [bs, dBin_add, hw]
   refine .some (.inl ⟨rfl, n - 1, by omega, k + 1, _, _, y', rfl, by omega, by have := t3.1; show h.length + 2 ≤ g3.length; omega, fun q hq => (t3.2 q (by omega)).trans ((bel' q (by omega)).trans (hb q hq)), (t3.2 _ (by omega)).trans ((bel' _ (by omega)).trans p8), q3, (t3.2 _ (by omega)).trans ((keep' ob holt hny).trans ho), ow'.keep fun q hq _ => t3.2 q (by omega), fun hin => ?_⟩)
   rcases fre' ob hin with hh | hh
   ·exact hny hh
   ·omega
  ·intro h0
   have h0 : k = L.length := by have : ¬ (k : Int) < L.length := by simpa using h0
                                omega
   subst h0
   refine .some (.inr ⟨by simp, rfl, y, hgl, hb, p8, k9, ?_⟩)
   rw [List.take_of_length_le (by omega)] at ow
   exact ow
 ·rintro ⟨ex, ds, g⟩ ⟨q1, y, hgl, hb, p8, k9, ow⟩
  simp only at q1 hgl hb p8 k9 ow
  subst q1
  simp only [unblk_self, toEnd_nrm, bs]
  have hlen : (togR B L L.length).length = L.length := togR_len _ _ _ (Nat.le_refl _)
  have hsl := own_sl (n0 := h.length) (n := 2) ow (by omega) (fun a _ => linr_frz _ g _ a)
  have hcs : ([.str b.r, .int .i64 b.e.a0, .int .i64 b.e.a1, .int .i64 a.e.a2, .int .i64 b.e.a3, y, .int .i64 b.e.a5, .int .i64 b.e.a6, .str b.e.s7, .str b.e.s8, b.e.fd] : List D).length = 11 := rfl
  simp only [ldob11 k9 hcs, bs]
  have hok : (D.agg [.str b.r, .int .i64 b.e.a0, .int .i64 b.e.a1, .int .i64 a.e.a2, .int .i64 b.e.a3, y, .int .i64 b.e.a5, .int .i64 b.e.a6, .str b.e.s7, .str b.e.s8, b.e.fd]).okv = true := by
   have h1 := own_one ow
   have h2 := slof_one b.e.hfd
   generalize b.e.fd = fd at h2
   cases y <;> first | (cases fd <;> first | rfl | (simp [-bind_some, D.one] at h2)) | (simp [-bind_some, D.one] at h1)
  refine wst74 p8 (by rfl) (by rfl) (by rw [hZl]; exact Nat.le_refl _) hok fun g2 q8 t2 => ?_
  replace q8 : g2[h.length]? = some (.row ty74 11 [[.str b.r, .int .i64 b.e.a0, .int .i64 b.e.a1, .int .i64 a.e.a2, .int .i64 b.e.a3, y, .int .i64 b.e.a5, .int .i64 b.e.a6, .str b.e.s7, .str b.e.s8, b.e.fd]]) := by
   rw [q8]; subst hZ; rfl
  simp only [ldob11 q8 hcs, bs, mkRes_one]
  have ow2 := ow.keep (h' := g2) fun q hq _ => t2.2 q (by omega)
  have hsl := own_sl (n0 := h.length) (n := 2) ow2 (by omega) (fun a _ => linr_frz _ g2 _ a)
  refine ⟨(.agg (itr ⟨b.r, ⟨b.e.a0, b.e.a1, a.e.a2, b.e.a3, togR B L L.length, frz h.length g2 3 y, b.e.a5, b.e.a6, b.e.s7, b.e.s8, b.e.fs, b.e.fd, b.e.hfd, b.e.hl, hsl, by omega⟩⟩), h), scope_eq ?_ (itr_ok _ _) (by have := t2.1; omega) (fun q hq => (t2.2 q (by omega)).trans (hb q hq)), rfl, _, rfl, ⟨rfl, rfl, rfl, rfl, rfl, rfl, rfl, rfl, rfl, ?_, rfl⟩⟩
  ·have hf := slof_frz (n0 := h.length) (h := g2) (n := 2) b.e.hfd (fun a _ => fld_frz _ g2 _ a)
   simp only [frz_agg, List.map_cons, List.map_nil, frz_int, frz_str, hf]
   rfl
  ·show togR B L L.length = _
   by_cases hr : b.r = []
   ·rw [if_pos hr]
    have : B = false := by rw [← hB, hr]; rfl
    subst this
    exact hL.symm
   ·rw [if_neg hr]
    have : B = true := by rw [← hB]; simp [-bind_some, hr]
    subst this
    rw [hL]
    simp [-bind_some, togR]
def bRow (host : Int) (p : List It × D × Int) : List D := [.int .i64 host, .int .i64 p.2.2, p.2.1]
def atR (n : Nat) : List D := [.int .i64 (n : Int)]
structure BtI (h : Hp) (o : Nat) (host : Int) (ps : List (List It × D)) (qa : Nat) (g : Hp) (x : D) (bt : List (List It × D × Int)) (ats : List Nat) : Prop where
 len : h.length ≤ g.length
 gr : ∀ q, q < h.length → q ≠ o → g[q]? = h[q]?
 cd : CD g o
 qa0 : h.length ≤ qa
 at_ : g[qa]? = some (.row ty3 1 (ats.map atR))
 al : ats.length = ps.length
 ab : ∀ (f : Nat) (n : Nat) p, ats[f]? = some n → ps[f]? = some p → n ≤ p.1.length
 out : Own g h.length ty1064 3 (bt.map (bRow host)) x
 its : ∀ p ∈ bt, Own g h.length ty74 11 (p.1.map itr) p.2.1 ∧ p.1.length ≤ 3 ∧ (∀ i ∈ p.1, BIt host i) ∧ 0 ≤ p.2.2 ∧ p.2.2 ≤ 12
structure BtL (h : Hp) (o : Nat) (qa pb : Nat) (x : D) (bt : List (List It × D × Int)) : Prop where
 hh : h.length ≤ pb
 ho : o < h.length
 hqa : qa < pb
 hx : ∀ q, x.inOb q → q < pb
 hbs : ∀ p ∈ bt, ∀ q, p.2.1.inOb q → q < pb
theorem BtI.keep {h : Hp} {o : Nat} {host : Int} {ps : List (List It × D)} {qa : Nat} {g g' : Hp} {x : D} {bt : List (List It × D × Int)} {ats : List Nat} {pb : Nat} (B : BtI h o host ps qa g x bt ats) (L : BtL h o qa pb x bt) (hcd : CD g' o) (hlen : g.length ≤ g'.length) (hk : ∀ q, q < pb → q ≠ o → g'[q]? = g[q]?) : BtI h o host ps qa g' x bt ats := by
 have h1 := L.hh
 have h2 := L.ho
 have h3 := L.hqa
 have h4 := B.qa0
 refine ⟨Nat.le_trans B.len hlen, fun q hq hn => (hk q (by omega) hn).trans (B.gr q hq hn), hcd, B.qa0, (hk qa h3 (by omega)).trans B.at_, B.al, B.ab, B.out.keep fun q hq hin => hk q (L.hx q hin) (by omega), fun p hp => ⟨(B.its p hp).1.keep fun q hq hin => hk q (L.hbs p hp q hin) (by omega), (B.its p hp).2⟩⟩
structure BnI (h : Hp) (o : Nat) (host : Int) (ps : List (List It × D)) (qa : Nat) (x : D) (bt : List (List It × D × Int)) (pb : Nat) (nu : Int) (g : Hp) (ats : List Nat) (its : List It) (y : D) : Prop where
 B : BtI h o host ps qa g x bt ats
 pg : pb < g.length
 pr : g[pb]? = some (.row ty1064 3 [[.int .i64 host, .int .i64 nu, y]])
 ow : Own g (pb + 1) ty74 11 (its.map itr) y
 ok : ∀ i ∈ its, BIt host i
section
variable {h : Hp} {o : Nat} {host : Int} {ps : List (List It × D)} {qa : Nat} {x : D} {bt : List (List It × D × Int)} {pb : Nat} {nu : Int}
theorem BnI.keep {g g' : Hp} {ats : List Nat} {its : List It} {y : D} (b : BnI h o host ps qa x bt pb nu g ats its y) (L : BtL h o qa pb x bt) (hcd : CD g' o) (hlen : g.length ≤ g'.length) (hk : ∀ q, q ≤ pb → q ≠ o → g'[q]? = g[q]?) (hy : ∀ q, y.inOb q → g'[q]? = g[q]?) : BnI h o host ps qa x bt pb nu g' ats its y := by
 have := L.hh
 have := L.ho
 exact ⟨b.B.keep L hcd hlen fun q hq hn => hk q (by omega) hn, by have := b.pg; omega, (hk pb (Nat.le_refl _) (by omega)).trans b.pr, b.ow.keep fun q _ hin => hy q hin, b.ok⟩
theorem BnI.next {g g' : Hp} {ats : List Nat} {its : List It} {y : D} (b : BnI h o host ps qa x bt pb nu g ats its y) (L : BtL h o qa pb x bt) (hcd : CD g' o) (hs : Same o g g') : BnI h o host ps qa x bt pb nu g' ats its y :=
 b.keep L hcd (Nat.le_of_eq hs.1.symm) (fun q _ hn => hs.2 q hn) fun q hin => hs.2 q (by have := (b.ow.lt hin).1; have := L.hh; have := L.ho; omega)
theorem BnI.put {g g' : Hp} {ats : List Nat} {its : List It} {y : D} {z : Nat} (b : BnI h o host ps qa x bt pb nu g ats its y) (L : BtL h o qa pb x bt) (hz : pb < z) (hzy : ¬ y.inOb z) (hs : Same z g g') : BnI h o host ps qa x bt pb nu g' ats its y :=
 b.keep L (b.B.cd.keep (hs.2 o (by have := L.hh; have := L.ho; omega))) (Nat.le_of_eq hs.1.symm) (fun q hq _ => hs.2 q (by omega)) fun q hin => hs.2 q fun hh => hzy (hh ▸ hin)
theorem BnI.new {g g' : Hp} {ats : List Nat} {its : List It} {y : D} (b : BnI h o host ps qa x bt pb nu g ats its y) (L : BtL h o qa pb x bt) (hl : g.length ≤ g'.length) (hk : ∀ q, q < g.length → g'[q]? = g[q]?) : BnI h o host ps qa x bt pb nu g' ats its y := by
 have h1 := b.pg
 have h2 := L.hh
 have h3 := L.ho
 exact b.keep L (b.B.cd.keep (hk o (by omega))) hl (fun q hq _ => hk q (by omega)) fun q hin => hk q (b.ow.lt hin).2
theorem ix_at {g : Hp} {ats : List Nat} {n f a : Nat} (hg : g[qa]? = some (.row ty3 1 (ats.map atR))) (hn : ats.length = n) (hf : ats[f]? = some a) : dIndexAddr tab ty82 (.msl 1 qa 0 n) (.int .i64 (f : Int)) = some (.ptr qa f 0) ∧ dLoad tab g ty3 (.ptr qa f 0) = some (.int .i64 a) := by
 have := (List.getElem?_eq_some_iff.1 hf).1
 have hh : (0 : Int) ≤ (f : Int) ∧ (f : Int) < (n : Int) := by omega
 constructor
 ·rw [ixm82, if_pos hh]; simp [-bind_some]
 ·rw [ldp3, row_of hg, List.getElem?_map, hf]; rfl
end
theorem ldIt0 {g : Hp} {z : Nat} {i : It} (hz : g[z]? = some (.row ty74 11 [itr i])) : dLoad tab g ty74 (.ptr z 0 0) = some (.agg (itr i)) := ldob11 hz rfl
theorem itr_okv (i : It) : (D.agg (itr i)).okv = true := by
 have h1 := slof_one i.e.hld
 have h2 := slof_one i.e.hfd
 have h3 : (D.agg (itr i)) = .agg [.str i.r, .int .i64 i.e.a0, .int .i64 i.e.a1, .int .i64 i.e.a2, .int .i64 i.e.a3, i.e.ld, .int .i64 i.e.a5, .int .i64 i.e.a6, .str i.e.s7, .str i.e.s8, i.e.fd] := rfl
 rw [h3]
 generalize i.e.ld = a at h1
 generalize i.e.fd = b at h2
 cases a <;> first | (cases b <;> first | rfl | (simp [-bind_some, D.one] at h2)) | (simp [-bind_some, D.one] at h1)
theorem put_it {g : Hp} {z : Nat} {row : List D} {i : It} (hz : g[z]? = some (.row ty74 11 [row])) (hr : row.length = 11) {β : Type} {f : Hp → Option β} {Q : β → Prop}
  (k : ∀ g', g'[z]? = some (.row ty74 11 [itr i]) → Same z g g' → Wp (f g') Q) : Wp ((dStore tab g ty74 (.ptr z 0 0) (.agg (itr i))).bind f) Q := by
 refine wst74 hz (by rfl) (by rfl) (by rw [hr]; exact Nat.le_refl _) (itr_okv i) fun g' q s => k g' ?_ s
 have : spl row 0 (cells1 (.agg (itr i))) = itr i := by
  show row.take 0 ++ itr i ++ row.drop (0 + (itr i).length) = itr i
  rw [List.drop_of_length_le (by rw [hr]; exact Nat.le_refl _)]
  simp [-bind_some]
 rw [q, this]
 rfl
theorem app_it {h : Hp} {o : Nat} {host : Int} {ps : List (List It × D)} {qa : Nat} {x : D} {bt : List (List It × D × Int)} {pb : Nat} {nu : Int} {g : Hp} {ats : List Nat} {its : List It} {y : D} {i : It} {z : Nat} {β : Type} {f : Hp → Option β} {Q : β → Prop}
  (b : BnI h o host ps qa x bt pb nu g ats its y) (L : BtL h o qa pb x bt) (hl : its.length ≤ 1000) (hz : g[z]? = some (.row ty74 11 [itr i])) (hi : BIt host i)
  (k : ∀ g' y', BnI h o host ps qa x bt pb nu g' ats (its ++ [i]) y' → Wp (f g') Q) :
  Wp ((dFieldAddr tab ty1064 2 (.ptr pb 0 0)).bind fun t => (dLoad tab g ty113 t).bind fun t103 => (dLoad tab g ty74 (.ptr z 0 0)).bind fun t104 => (pLitF tab ty113 1 [0] [t104]).bind fun t105 => (dAppend tab g ty113 ty113 t103 t105).bind fun p => (dFieldAddr tab ty1064 2 (.ptr pb 0 0)).bind fun t107 => (dStore tab p.2 ty113 t107 p.1).bind f) Q := by
 have h1 := b.pg
 have h2 := L.hh
 have h3 := L.ho
 simp only [fap1064_2, ldp113, row_of b.pr, List.getElem?_cons_zero, bs, List.drop_succ_cons, List.drop_zero, List.head?_cons, Nat.zero_add, ldIt0 hz, bsIt]
 refine wap113 (n0 := pb + 1) h1 b.ow (rowsOf_sl _ _ _ _) (by simp; omega) fun y' g' ow len bel keep fre => ?_
 simp only [bs]
 have oc := one_cells (own_one ow)
 refine wst113 ((bel pb (by omega)).trans b.pr) (by rfl) (by rw [oc.1]; rfl) (by simp) oc.2 fun g2 q2 s2 => ?_
 rw [oc.1] at q2
 have h4 := s2.1
 refine k g2 y' ⟨b.B.keep L (b.B.cd.keep ((s2.2 o (by omega)).trans (bel o (by omega)))) (by omega) (fun q hq _ => (s2.2 q (by omega)).trans (bel q (by omega))), by omega, q2, ?_, fun j hj => ?_⟩
 ·rw [List.map_append]
  exact ow.keep fun q hq _ => s2.2 q (by omega)
 ·rcases List.mem_append.1 hj with hj | hj
  ·exact b.ok j hj
  ·simp at hj; subst hj; exact hi
theorem b1088 {h : Hp} {o : Nat} {host most : Int} {ps : List (List It × D)} {qa : Nat} {x dps : D} {bt : List (List It × D × Int)} {pb : Nat} {nu : Int} {g : Hp} {ats : List Nat} {its : List It} {y : D} (L : BtL h o qa pb x bt)
  (hps : SlOf 1 (fun p : List It × D => [p.2]) ps dps) (hf : FilesOK host most (SlOf 11 itr) ps) (hn1 : 1 ≤ ps.length) (hn3 : ps.length ≤ 3) (hm : most ≤ 100) (h0 : 0 ≤ host) (h9 : host ≤ 999)
  (b : BnI h o host ps qa x bt pb nu g ats its y) (hl : its.length ≤ 100) (p11 : D × Hp) (hp : p11.1 = .ptr pb 0 0) (k : Nat) (hk : 0 < k) (hk2 : k ≤ 100) (a1 a2 a3 a4 a5 a6 a7 a8 a9 : D) :
  Wp (F1088_L1 (.ptr o 0 0) dps (.msl 1 qa 0 ps.length) p11 [.int .i64 k, a1, a2, a3, a4, a5, a6, a7, a8, a9] g) (fun r => ∃ g' ats' its' y' c1 c2 c3 c4 c5 c6 c7 c8 c9, r = (.nrm, [.int .i64 ((k - 1 : Nat) : Int), c1, c2, c3, c4, c5, c6, c7, c8, c9], g') ∧ BnI h o host ps qa x bt pb nu g' ats' its' y' ∧ its'.length ≤ its.length + 1) := by
 have hk' : (0 : Int) < (k : Int) := by omega
 have hw : IntKind.wrap .i64 ((k : Int) - 1) = ((k - 1 : Nat) : Int) := by
  rw [wrap_i64 (by omega) (by omega)]; omega
 simp only [F1088_L1, nth_zero, nth_succ, bs, Option.bind_assoc, dBin_gtr, hk', decide_true, dIf_bool, if_true, lens111 hps, hp]
 obtain ⟨v, g1, e1, c1, s1, v0, v1⟩ := next_b b.B.cd ps.length (by omega) (by omega)
 refine Wp.step e1 ?_
 have b1 := b.next L c1 s1
 obtain ⟨f, rfl⟩ := Int.eq_ofNat_of_zero_le v0
 have hfl : f < ps.length := by omega
 obtain ⟨a, ha⟩ : ∃ a, ats[f]? = some a := ⟨_, List.getElem?_eq_getElem (by rw [b.B.al]; exact hfl)⟩
 obtain ⟨p, hpf⟩ : ∃ p, ps[f]? = some p := ⟨_, List.getElem?_eq_getElem hfl⟩
 obtain ⟨hpd, hpl, po, hit⟩ := hf f p hpf
 have hab := b.B.ab f a p ha hpf
 have ix := ix_at (qa := qa) (n := ps.length) b1.B.at_ b1.B.al ha
 have hmem : dIndexAddr tab ty111 dps (.int .i64 (f : Int)) = some (.fptr [p.2]) := by rw [ixs111 hps]; simp [-bind_some, hpf]
 simp only [ix.1, ix.2, hmem, ld113, lens113 hpd, bs, dBin_geq]
 refine Wp.join (P := fun r => ∃ g' ats' its' y' c1 c2 c3 c4 c5 c6 c7 c8, r = (.nrm, [c1, c2, c3, c4, c5, c6, c7, c8], g') ∧ BnI h o host ps qa x bt pb nu g' ats' its' y' ∧ its'.length ≤ its.length + 1) ?_ ?_ ?_
 ·intro _
  exact .some ⟨g1, ats, its, y, _, _, _, _, _, _, _, _, rfl, b1, by omega⟩
 ·intro hlt
  have hlt : a < p.1.length := by have : ¬ (p.1.length : Int) ≤ (a : Int) := by simpa using hlt
                                  omega
  obtain ⟨i, hi⟩ : ∃ i, p.1[a]? = some i := ⟨_, List.getElem?_eq_getElem hlt⟩
  obtain ⟨fr, hio, hfr0, hfr1, _⟩ := items_get host _ p.1 0 po hit a i hi
  have hBi : BIt host i := bit_of hio h0 h9 (by omega) (by omega) hfr0 (by omega)
  have hii : dIndexAddr tab ty113 p.2 (.int .i64 (a : Int)) = some (.fptr (itr i)) := by rw [ixs113 hpd]; simp [-bind_some, hi]
  simp only [hii, ldIt, bs]
  generalize hZ : ([.str [], .int .i64 0, .int .i64 0, .int .i64 0, .int .i64 0, .nils, .int .i64 0, .int .i64 0, .str [], .str [], .nils] : List D) = Z
  have hZl : Z.length = 11 := by subst hZ; rfl
  have hold : ∀ q, q < g1.length → (dNew g1 ty74 11 [Z])[q]? = g1[q]? := fun q hq => dNew_old _ _ _ _ hq
  have hzz : (dNew g1 ty74 11 [Z])[g1.length]? = some (.row ty74 11 [Z]) := dNew_get _ _ _ _
  have hzl : (dNew g1 ty74 11 [Z]).length = g1.length + 1 := by simp [-bind_some, dNew]
  have b2 := b1.new L (g' := dNew g1 ty74 11 [Z]) (by omega) hold
  have hzy : ¬ y.inOb g1.length := fun hh => by have := (b1.ow.lt hh).2; omega
  have hzp : pb < g1.length := b1.pg
  generalize dNew g1 ty74 11 [Z] = g2 at hzz hzl b2
  generalize hzg : List.length g1 = z at hzz hzl hzy hzp
  clear hold
  have ix2 := ix_at (qa := qa) (n := ps.length) b2.B.at_ b2.B.al ha
  simp only [ix2.2]
  refine Wp.chk trivial (Wp.chk trivial (Wp.chk trivial ?_))
  refine put_it hzz hZl fun g3 hz3 s3 => ?_
  have b3 := b2.put L hzp hzy s3
  have hl3 : g3.length = z + 1 := by rw [s3.1, hzl]
  try simp only [bs]
  obtain ⟨u, g4, e4, c4, s4, u0, u1⟩ := next_b b3.B.cd 8 (by omega) (by omega)
  refine Wp.step e4 ?_
  have b4 := b3.next L c4 s4
  have hoz : z ≠ o := by have := L.hh; have := L.ho; omega
  have hz4 := (s4.2 z hoz).trans hz3
  have hl4 : g4.length = z + 1 := by rw [s4.1, hl3]
  have ix4 := ix_at (qa := qa) (n := ps.length) b4.B.at_ b4.B.al ha
  simp only [dBin_eql, bs]
  refine Wp.join (P := fun r => (∃ g' i' c1 c2, r = (.nrm, [c1, c2], g') ∧ BnI h o host ps qa x bt pb nu g' ats its y ∧ g'[z]? = some (.row ty74 11 [itr i']) ∧ BIt host i' ∧ g'.length = z + 1) ∨ (∃ g' i' y' c1 c2, r = (.ext 3, [c1, c2], g') ∧ BnI h o host ps qa x bt pb nu g' ats (its ++ [i']) y')) ?_ ?_ ?_
  ·intro _
   simp only [ix4.1, ix4.2, bs, dBin_gtr]
   refine Wp.join (P := fun r => ∃ g' i', r = (.nrm, [], g') ∧ BnI h o host ps qa x bt pb nu g' ats its y ∧ g'[z]? = some (.row ty74 11 [itr i']) ∧ BIt host i' ∧ g'.length = z + 1) ?_ ?_ ?_
   ·intro ha0
    have ha0 : 0 < a := by have : (0 : Int) < (a : Int) := by simpa using ha0
                           omega
    have hw2 : IntKind.wrap .i64 ((a : Int) - 1) = ((a - 1 : Nat) : Int) := by
     rw [wrap_i64 (by omega) (by omega)]; omega
    obtain ⟨ib, hib⟩ : ∃ i, p.1[a - 1]? = some i := ⟨_, List.getElem?_eq_getElem (by omega)⟩
    obtain ⟨fb, hbo, hfb0, hfb1, hnx⟩ := items_get host _ p.1 0 po hit (a - 1) ib hib
    have hio2 := hnx i (by rw [show a - 1 + 1 = a by omega]; exact hi)
    have hib2 : dIndexAddr tab ty113 p.2 (.int .i64 ((a - 1 : Nat) : Int)) = some (.fptr (itr ib)) := by rw [ixs113 hpd]; simp [-bind_some, hib]
    have n1 := hbo.n1
    have n3 := hbo.n3
    have n5 := hio2.n3
    obtain ⟨j, ej, hj⟩ := s1093 ib i g4 (by omega) (by omega) n1
    have hBj : BIt host j := bit_tog hbo hio2 rfl h0 h9 (by omega) (by omega) hfb0 (by omega) hj
    simp only [dBin_sub, hw2, bs, hib2, ldIt, ldIt0 hz4, hmem, ld113]
    refine Wp.step ej ?_
    simp only [bs]
    refine put_it hz4 rfl fun g5 hz5 s5 => ?_
    try simp only [bs]
    exact .some ⟨g5, j, rfl, b4.put L hzp hzy s5, hz5, hBj, by rw [s5.1, hl4]⟩
   ·intro _
    exact .some ⟨g4, i, rfl, b4, hz4, hBi, hl4⟩
   rintro _ ⟨g', i', rfl, b', hz', hB', hl'⟩
   simp only [bs]
   exact .some (.inl ⟨g', i', _, _, rfl, b', hz', hB', hl'⟩)
  ·intro _
   refine Wp.dif ?_ ?_
   ·intro _
    have hw2 : IntKind.wrap .i64 ((a : Int) + 1) = ((a + 1 : Nat) : Int) := by
     rw [wrap_i64 (by omega) (by omega)]; omega
    have hw3 : IntKind.wrap .i64 ((p.1.length : Int) - 1) = ((p.1.length - 1 : Nat) : Int) := by
     rw [wrap_i64 (by omega) (by omega)]; omega
    obtain ⟨c, hmc, hc⟩ : ∃ c : Nat, dMin (.int .i64 ((a + 1 : Nat) : Int)) (.int .i64 ((p.1.length - 1 : Nat) : Int)) = some (.int .i64 c) ∧ c < p.1.length := by
     rw [dMin_int]
     split
     ·exact ⟨a + 1, rfl, by omega⟩
     ·exact ⟨p.1.length - 1, rfl, by omega⟩
    obtain ⟨ib, hib⟩ : ∃ i, p.1[c]? = some i := ⟨_, List.getElem?_eq_getElem hc⟩
    obtain ⟨fb, hbo, hfb0, hfb1, hnx⟩ := items_get host _ p.1 0 po hit c ib hib
    have hBb : BIt host ib := bit_of hbo h0 h9 (by omega) (by omega) hfb0 (by omega)
    have hib2 : dIndexAddr tab ty113 p.2 (.int .i64 (c : Int)) = some (.fptr (itr ib)) := by rw [ixs113 hpd]; simp [-bind_some, hib]
    simp only [ix4.1, ix4.2, bs, hmem, ld113, lens113 hpd, dBin_add, dBin_sub, hw2, hw3, hmc, hib2, ldIt]
    refine put_it hz4 rfl fun g5 hz5 s5 => ?_
    have b5 := b4.put L hzp hzy s5
    try simp only [bs]
    refine app_it b5 L (by omega) hz5 hBb fun g6 y6 b6 => ?_
    try simp only [bs]
    exact .some (.inr ⟨g6, ib, y6, _, _, rfl, b6⟩)
   ·intro _
    exact .some (.inl ⟨g4, i, _, _, rfl, b4, hz4, hBi, hl4⟩)
  rintro _ (⟨g', i', d1, d2, rfl, b', hz', hB', hl'⟩ | ⟨g', i', y', d1, d2, rfl, b'⟩)
  ·simp only [unblk_nrm, toEnd_nrm, nth_zero, nth_succ, Option.bind_assoc, bs]
   refine app_it b' L (by omega) hz' hB' fun g6 y6 b6 => ?_
   try simp only [bs]
   obtain ⟨w, g7, e7, c7, s7, w0, w1⟩ := next_b b6.B.cd 4 (by omega) (by omega)
   refine Wp.step e7 ?_
   have b7 := b6.next L c7 s7
   simp only [dBin_gtr, bs]
   refine Wp.join (P := fun r => ∃ g' ats', r = (.nrm, [], g') ∧ BnI h o host ps qa x bt pb nu g' ats' (its ++ [i']) y6) ?_ ?_ ?_
   ·intro _
    have ix7 := ix_at (qa := qa) (n := ps.length) b7.B.at_ b7.B.al ha
    have hw2 : IntKind.wrap .i64 ((a : Int) + 1) = ((a + 1 : Nat) : Int) := by
     rw [wrap_i64 (by omega) (by omega)]; omega
    simp only [ix7.1, ix7.2, bs, dBin_add, hw2, Option.bind_assoc]
    have hrow : (ats.map atR)[f]? = some (atR a) := by rw [List.getElem?_map, ha]; rfl
    refine wst3 b7.B.at_ hrow (by rfl) (by simp [-bind_some, atR]) (by rfl) fun g8 q8 s8 => ?_
    have hset : (ats.map atR).set f (spl (atR a) 0 (cells1 (.int .i64 ((a + 1 : Nat) : Int)))) = (ats.set f (a + 1)).map atR := by
     rw [List.map_set]; rfl
    rw [hset] at q8
    try simp only [bs]
    have lh := L.hh
    have lo := L.ho
    have lq := L.hqa
    have q0 := b7.B.qa0
    refine .some ⟨g8, ats.set f (a + 1), rfl, ⟨⟨by have := b7.B.len; have := s8.1; omega, fun q hq hn => (s8.2 q (by omega)).trans (b7.B.gr q hq hn), b7.B.cd.keep (s8.2 o (by omega)), q0, q8, by rw [List.length_set]; exact b7.B.al, fun f' n' p' hn' hp' => ?_, b7.B.out.keep fun q hq hin => s8.2 q ?_, fun p' hp' => ⟨(b7.B.its p' hp').1.keep fun q hq hin => s8.2 q ?_, (b7.B.its p' hp').2⟩⟩, by have := b7.pg; have := s8.1; omega, (s8.2 pb (by omega)).trans b7.pr, b7.ow.keep fun q hq hin => s8.2 q (by omega), b7.ok⟩⟩
    ·rw [List.getElem?_set] at hn'
     split at hn'
     ·rename_i hff
      subst hff
      split at hn'
      ·injection hn' with hn'
       rw [hpf] at hp'
       injection hp' with hp'
       subst hp'
       omega
      ·cases hn'
     ·exact b7.B.ab f' n' p' hn' hp'
    ·rcases b7.B.out with ⟨hx, _⟩ | ⟨ob, _, hx, hg⟩
     ·rw [hx] at hin; obtain ⟨_, _, hin⟩ := hin; cases hin
     ·rw [hx] at hin
      obtain ⟨_, _, hin⟩ := hin
      injection hin with _ hin
      subst hin
      rintro rfl
      have e := hg.symm.trans b7.B.at_
      injection e with e
      injection e with e
      exact absurd e (by decide)
    ·rcases (b7.B.its p' hp').1 with ⟨hx, _⟩ | ⟨ob, _, hx, hg⟩
     ·rw [hx] at hin; obtain ⟨_, _, hin⟩ := hin; cases hin
     ·rw [hx] at hin
      obtain ⟨_, _, hin⟩ := hin
      injection hin with _ hin
      subst hin
      rintro rfl
      have e := hg.symm.trans b7.B.at_
      injection e with e
      injection e with e
      exact absurd e (by decide)
   ·intro _
    exact .some ⟨g7, ats, rfl, b7⟩
   rintro _ ⟨g', ats', rfl, b'⟩
   simp only [unblk_nrm]
   exact .some ⟨g', ats', _, y6, _, _, _, _, _, _, _, _, rfl, b', by simp⟩
  ·have hu : unblk 4 (.ext 3) = .ext 3 := by simp [-bind_some, unblk]
   simp only [hu, toEnd_ext, unblk_self, nth_zero, nth_succ]
   exact .some ⟨g', ats, _, y', _, _, _, _, _, _, _, _, rfl, b', by simp⟩
 rintro _ ⟨g', ats', its', y', d1, d2, d3, d4, d5, d6, d7, d8, rfl, b', hl'⟩
 simp only [toEnd_nrm, nth_zero, nth_succ, dBin_sub, bs, hw]
 exact .some ⟨g', ats', its', y', _, _, _, _, _, _, _, _, _, rfl, b', hl'⟩
structure Bat where
 hs : Int
 nu : Int
 its : List It
 d : D
 hd : SlOf 11 itr its d
def batr (b : Bat) : List D := [.int .i64 b.hs, .int .i64 b.nu, b.d]
theorem row_ne {g : Hp} {a b T z T' z' : Nat} {r r' : List (List D)} (ha : g[a]? = some (.row T z r)) (hb : g[b]? = some (.row T' z' r')) (hn : T ≠ T') : a ≠ b := by
 rintro rfl
 have e := ha.symm.trans hb
 injection e with e
 injection e with e
 exact hn e
theorem own_ne {g : Hp} {b n e z T' z' : Nat} {rows r' : List (List D)} {d : D} (ha : Own g n e z rows d) (hb : g[b]? = some (.row T' z' r')) (hn : e ≠ T') : ¬ d.inOb b := by
 rintro ⟨z1, n1, hin⟩
 rcases ha with ⟨hx, _⟩ | ⟨ob, _, hx, hg⟩
 ·rw [hx] at hin; cases hin
 ·rw [hx] at hin
  injection hin with _ hin
  exact row_ne hg hb hn hin
theorem app_bt {h : Hp} {o : Nat} {host : Int} {ps : List (List It × D)} {qa : Nat} {g : Hp} {x : D} {bt : List (List It × D × Int)} {ats : List Nat} (B : BtI h o host ps qa g x bt ats) (ho : o < h.length) (hl : bt.length ≤ 1000) (p : List It × D × Int)
  (hp : Own g h.length ty74 11 (p.1.map itr) p.2.1 ∧ p.1.length ≤ 3 ∧ (∀ i ∈ p.1, BIt host i) ∧ 0 ≤ p.2.2 ∧ p.2.2 ≤ 12) {β : Type} {f : D × Hp → Option β} {Q : β → Prop} (k : ∀ x' g', BtI h o host ps qa g' x' (bt ++ [p]) ats → (∀ q, x'.inOb q → x.inOb q ∨ g.length ≤ q) → g.length ≤ g'.length → Wp (f (x', g')) Q) :
  Wp ((dAppend tab g ty1059 ty1059 x (.sl 3 true [bRow host p])).bind f) Q := by
 refine wap1059 B.len B.out (rowsOf_sl _ _ _ _) (by simp; omega) fun x' g' ow len bel keep fre => k x' g' ?_ fre len
 have qal := (List.getElem?_eq_some_iff.1 B.at_).1
 refine ⟨Nat.le_trans B.len len, fun q hq hn => (bel q hq).trans (B.gr q hq hn), B.cd.keep (bel o ho), B.qa0, (keep qa qal (own_ne B.out B.at_ (by decide))).trans B.at_, B.al, B.ab, ?_, fun p' hp' => ?_⟩
 ·rw [List.map_append]; exact ow
 ·have kp : ∀ p' : List It × D × Int, Own g h.length ty74 11 (p'.1.map itr) p'.2.1 → Own g' h.length ty74 11 (p'.1.map itr) p'.2.1 := fun p' w => w.keep fun q hq hin => keep q (w.lt hin).2 (own_dis w B.out (by decide) hin)
  rcases List.mem_append.1 hp' with hm | hm
  ·exact ⟨kp _ (B.its p' hm).1, (B.its p' hm).2⟩
  ·simp only [List.mem_singleton] at hm
   subst hm
   exact ⟨kp _ hp.1, hp.2⟩
theorem BtI.same {h : Hp} {o : Nat} {host : Int} {ps : List (List It × D)} {qa : Nat} {g g' : Hp} {x : D} {bt : List (List It × D × Int)} {ats : List Nat} (B : BtI h o host ps qa g x bt ats) (ho : o < h.length) (hcd : CD g' o) (hs : Same o g g') : BtI h o host ps qa g' x bt ats := by
 have h1 := B.qa0
 exact ⟨by rw [hs.1]; exact B.len, fun q hq hn => (hs.2 q hn).trans (B.gr q hq hn), hcd, B.qa0, (hs.2 qa (by omega)).trans B.at_, B.al, B.ab, B.out.same hs ho, fun p hp => ⟨(B.its p hp).1.same hs ho, (B.its p hp).2⟩⟩
theorem mk82 (g : Hp) (n : Nat) (hn : n ≤ 100) : dMake tab g ty82 (.int .i64 n) (.int .i64 n) = some (.msl 1 g.length 0 n, dNew g ty3 1 ((List.replicate n 0).map atR)) := by
 have h1 : tab ty82 = some ti82 := id rfl
 have h2 : ti82.td = .sl ty3 := id rfl
 have h3 : tab ty3 = some ti3 := id rfl
 have h4 : ti3.sz = 1 := id rfl
 have h5 : ti3.zero = atR 0 := id rfl
 have h6 : lim n ti3.by_ = true := lim_ok (by have : ti3.by_ = 8 := rfl; rw [this]; omega) (by omega)
 have h7 : (0 : Int) ≤ (n : Int) := by omega
 simp [-bind_some, dMake, h1, h2, h3, h4, h5, h6]
def RdM (h : Hp) (l : List Mrk) (d : D) : Prop := SlOf 3 mrkr l d ∨ ∃ ob, d = .msl 3 ob 0 l.length ∧ h[ob]? = some (.row ty1006 3 (l.map mrkr))
theorem rdM_len {h : Hp} {l : List Mrk} {d : D} (hd : RdM h l d) : dLenT tab ty1007 d = some (.int .i64 l.length) := by
 rcases hd with hd | ⟨ob, rfl, _⟩
 ·exact lens1007 hd
 ·exact lenm1007 _ _ _ _
theorem rdM_ix {h : Hp} {l : List Mrk} {d : D} (hd : RdM h l d) (i : Nat) (p : Mrk) (hp : l[i]? = some p) : ∃ q, dIndexAddr tab ty1007 d (.int .i64 i) = some q ∧ dLoad tab h ty1006 q = some (.agg (mrkr p)) ∧ ∃ q2, dFieldAddr tab ty1006 2 q = some q2 ∧ dLoad tab h ty3 q2 = some (.int .i64 p.o) := by
 have hi := (List.getElem?_eq_some_iff.1 hp).1
 rcases hd with hd | ⟨ob, rfl, ho⟩
 ·exact ⟨.fptr (mrkr p), by rw [ixs1007 hd]; simp [-bind_some, hp], mrkr_ld p h, .fptr [.int .i64 p.o], rfl, rfl⟩
 ·have hr : (l.map mrkr)[i]? = some (mrkr p) := by rw [List.getElem?_map, hp]; rfl
  have hh : (0 : Int) ≤ (i : Int) ∧ (i : Int) < (l.length : Int) := by omega
  refine ⟨.ptr ob i 0, by rw [ixm1007]; simp [-bind_some, hh], ?_, .ptr ob i 2, rfl, ?_⟩
  ·rw [ldp1006, row_of ho, hr]; rfl
  ·rw [ldp3, row_of ho, hr]; rfl
theorem s1016r (l : List Mrk) (d : D) (t : Mrk) (fn : D) (c : Mrk → Int) (h : Hp) (hd : RdM h l d) (hl : l.length ≤ 1000000) (hf : ∀ x, callV R fn [.agg (mrkr x), .agg (mrkr t)] h = some (.int .i64 (c x), h))
   (k : Nat) (hk : k ≤ l.length) (h1 : ∀ i x, l[i]? = some x → i < k → c x < 0) (h2 : ∀ i x, l[i]? = some x → k ≤ i → 0 ≤ c x) :
   R fn1016 [d, .agg (mrkr t), fn] h = some (.tup [.int .i64 k, .bool (match l[k]? with | some x => decide (c x = 0) | none => false)], h) := by
 suffices Wp (R fn1016 [d, .agg (mrkr t), fn] h) (fun p => p = (.tup [.int .i64 k, .bool (match l[k]? with | some x => decide (c x = 0) | none => false)], h)) by
  obtain ⟨p, h1, rfl⟩ := this
  exact h1
 rw [e1016]
 simp only [F1016, pBoxF_agg, bs, Option.bind_assoc, rdM_len hd]
 refine Wp.loop (fun n ds g => g = h ∧ ∃ a b e, ∃ lo hi : Nat, ds = [.int .i64 lo, .int .i64 hi, a, b, e] ∧ lo ≤ k ∧ k ≤ hi ∧ hi ≤ l.length ∧ n = hi - lo)
   (fun x => x.1 = .ext 0 ∧ x.2.2 = h ∧ nth 0 x.2.1 = .int .i64 k) l.length ⟨rfl, _, _, _, 0, l.length, rfl, by omega, hk, Nat.le_refl _, rfl⟩ ?_ ?_
 ·rintro n ds g ⟨rfl, a, b, e, lo, hi, rfl, hlo, hhi, hle, rfl⟩
  simp only [F1016_L0, nth_zero, nth_succ, bs, Option.bind_assoc, dBin_lss]
  refine Wp.dif ?_ ?_
  ·intro h0
   have h0 : lo < hi := by have : (lo : Int) < hi := by simpa using h0
                           omega
   have hw : IntKind.wrap .i64 ((lo : Int) + hi) = ((lo + hi : Nat) : Int) := by
    rw [wrap_i64 (by omega) (by omega)]; omega
   have hw2 : IntKind.wrap .u64 ((lo + hi : Nat) : Int) = ((lo + hi : Nat) : Int) := by
    unfold IntKind.wrap
    simp [-bind_some, IntKind.signed, IntKind.bits, IntKind.min, IntKind.max]
    omega
   have hw3 : (((lo + hi : Nat) : Int)).fdiv (2 ^ (min (Int.toNat 1) IntKind.u64.bits)) = (((lo + hi) / 2 : Nat) : Int) := by
    rw [show (2 : Int) ^ (min (Int.toNat 1) IntKind.u64.bits) = 2 by decide]
    rw [Int.fdiv_eq_ediv_of_nonneg _ (by omega)]
    omega
   have hw4 : IntKind.wrap .i64 (((lo + hi) / 2 : Nat) : Int) = (((lo + hi) / 2 : Nat) : Int) := wrap_i64 (by omega) (by omega)
   have hw5 : IntKind.wrap .i64 ((((lo + hi) / 2 : Nat) : Int) + 1) = (((lo + hi) / 2 + 1 : Nat) : Int) := by
    rw [wrap_i64 (by omega) (by omega)]; omega
   have hm : (lo + hi) / 2 < l.length := by omega
   have hm1 : lo ≤ (lo + hi) / 2 := by omega
   have hm2 : (lo + hi) / 2 < hi := by omega
   generalize (lo + hi) / 2 = mid at *
   have hg : l[mid]? = some l[mid] := List.getElem?_eq_getElem hm
   generalize l[mid] = x at hg
   obtain ⟨q0, i0, i1, _⟩ := rdM_ix hd mid x hg
   simp only [dBin_add, hw, cv3_134, cv134_3, bs, hw2, dBin_shr, show ¬ (1 : Int) < 0 by omega, if_false, hw3, hw4, i0, i1, mrkr_ld, hf, dBin_lss]
   by_cases hc : c x < 0
   ·have hkm : mid < k := by
      rcases Nat.lt_or_ge mid k with hh | hh
      ·exact hh
      ·have := h2 mid x hg hh
       omega
    simp only [hc, decide_true, dIf_bool, if_true, bs, hw5, unblk_nrm, nth_zero, nth_succ]
    exact .some (.inl ⟨rfl, hi - (mid + 1), by omega, rfl, _, _, _, mid + 1, hi, rfl, by omega, hhi, hle, rfl⟩)
   ·have hkm : k ≤ mid := by
      rcases Nat.lt_or_ge mid k with hh | hh
      ·exact absurd (h1 mid x hg hh) hc
      ·exact hh
    simp only [hc, decide_false, dIf_bool, Bool.false_eq_true, if_false, bs, unblk_nrm, nth_zero, nth_succ]
    exact .some (.inl ⟨rfl, mid - lo, by omega, rfl, _, _, _, lo, mid, rfl, hlo, hkm, by omega, rfl⟩)
  ·intro h0
   have h0 : lo = k := by have : ¬ (lo : Int) < hi := by simpa using h0
                          omega
   subst h0
   exact .some (.inr ⟨by simp, rfl, rfl, rfl⟩)
 ·rintro ⟨ex, ds, g⟩ ⟨q1, q2, q3⟩
  simp only at q1 q2 q3
  subst q1; subst q2
  simp only [unblk_self, toEnd_nrm, nth_zero, q3, bs, dBin_lss]
  by_cases hkl : k < l.length
  ·have hg : l[k]? = some l[k] := List.getElem?_eq_getElem hkl
   have hlt : (k : Int) < l.length := by omega
   generalize l[k] = x at hg
   obtain ⟨q0, i0, i1, _⟩ := rdM_ix hd k x hg
   simp only [hlt, decide_true, gd_bool, if_true, bs, i0, i1, hg, mrkr_ld, gdW_bool, hf, dBin_eql, dPick_bool, mkRes_two]
   exact .some rfl
  ·have hg : l[k]? = none := List.getElem?_eq_none (by omega)
   have hlt : ¬ (k : Int) < l.length := by omega
   simp only [hlt, decide_false, gd_bool, Bool.false_eq_true, if_false, bs, gdW_bool, dPick_bool, mkRes_two, hg]
   exact .some rfl
theorem s1013r (l : List Mrk) (d : D) (hst fil : Int) (h : Hp) (hd : RdM h l d) (hl : l.length ≤ 1000000)
   (k : Nat) (hk : k ≤ l.length) (h1 : ∀ i x, l[i]? = some x → i < k → cmpM x ⟨hst, fil, 0⟩ < 0) (h2 : ∀ i x, l[i]? = some x → k ≤ i → 0 ≤ cmpM x ⟨hst, fil, 0⟩) :
   R fn1013 [d, .int .i64 hst, .int .i64 fil] h = some (.tup [.int .i64 k, .bool (match l[k]? with | some x => decide (cmpM x ⟨hst, fil, 0⟩ = 0) | none => false)], h) := by
 have hb : dBuild tab ty1006 [0, 1] [.int .i64 hst, .int .i64 fil] = some (.agg (mrkr ⟨hst, fil, 0⟩)) := id rfl
 rw [e1013]
 simp only [F1013, bs, hb, Option.bind_assoc]
 rw [s1016r l d ⟨hst, fil, 0⟩ (.fn (.func fn1017) [] []) (fun x => cmpM x ⟨hst, fil, 0⟩) h hd hl (fun x => by rw [callV_some]; exact s1017 x _ h) k hk h1 h2]
 rfl
theorem s1005r (l : List Mrk) (d dt : D) (hst fil : Int) (h : Hp) (hd : RdM h l d) (hl : l.length ≤ 1000000) (hs : MAsc l) : R fn1005 [.agg [d, dt], .int .i64 hst, .int .i64 fil] h = some (.int .i64 (markOf l hst fil), h) := by
 have hk := kM_le ⟨hst, fil, 0⟩ l
 have h13 := s1013r l d hst fil h hd hl (kM ⟨hst, fil, 0⟩ l) hk (kM_lt _ l) (kM_ge _ l hs)
 rw [e1005]
 unfold markOf
 generalize kM ⟨hst, fil, 0⟩ l = k at hk h13
 simp only [F1005, pBoxF_agg, bs, fa1009_0, ld1007, h13, dExtract_tup, List.getElem?_cons_zero, List.getElem?_cons_succ]
 cases hg : l[k]? with
 | none => simp [-bind_some]
 | some x =>
  obtain ⟨q0, i0, i1, q2, i2, i3⟩ := rdM_ix hd k x hg
  by_cases hc : cmpM x ⟨hst, fil, 0⟩ = 0
  ·simp [-bind_some, hc, i0, i2, i3]
  ·simp [-bind_some, hc]
theorem u1095 (l : List Mrk) (d : D) (h : Hp) (hd : SlOf 3 mrkr l d) (hl : l.length ≤ 1000000) : ∃ d' h', R fn1095 [d] h = some (d', h') ∧ h.length ≤ h'.length ∧ (∀ q, q < h.length → h'[q]? = h[q]?) ∧
  ((l = [] ∧ (d' = .nils ∨ d' = .sl 3 true [])) ∨ ∃ ob, h.length ≤ ob ∧ d' = .msl 3 ob 0 l.length ∧ h'[ob]? = some (.row ty1006 3 (l.map mrkr))) := by
 rw [e1095]
 rcases hd with ⟨rfl, rfl⟩ | ⟨b, rfl⟩
 ·exact ⟨.nils, h, by
    have hne : dBin tab .eql ty1007 .nils .nils = some (.bool true) := id rfl
    simp [-bind_some, F1095, hne], Nat.le_refl _, fun _ _ => rfl, .inl ⟨rfl, .inl rfl⟩⟩
 ·obtain ⟨x', h', e, hl', hq, ho⟩ := app_full (T := tab) (t := ty1007) (i := ti1007) (j := ti1006) (h := h) (id rfl) (id rfl) (id rfl) (by decide) (y := .sl 3 b (l.map mrkr)) (rowsOf_sl _ _ _ _) (lim_ok (by have : ti1006.by_ = 24 := rfl; rw [this, List.length_map]; omega) (by rw [List.length_map]; omega))
  have e' : dAppend tab h ty1007 ty1007 (.sl 3 true []) (.sl 3 b (l.map mrkr)) = some (x', h') := e
  have hne : dBin tab .eql ty1007 (.sl 3 b (l.map mrkr)) .nils = some (.bool false) := id rfl
  refine ⟨x', h', ?_, hl', hq, ?_⟩
  ·simp only [F1095, bs, hne, dIf_bool, Bool.false_eq_true, if_false, bs1007_0, e', mkRes_one]
  ·rcases ho with ⟨rfl, hn⟩ | ⟨rfl, hn⟩ | ⟨ob, h1, rfl, h2⟩
   ·have : l = [] := by simpa using hn
    exact .inl ⟨this, .inr rfl⟩
   ·have : l = [] := by simpa using hn
    exact .inl ⟨this, .inl rfl⟩
   ·exact .inr ⟨ob, h1, by rw [List.length_map]; rfl, h2⟩
theorem u79r (l : List Tal) (d : D) (h : Hp) (hd : RdT h l d) (hl : l.length ≤ 1000000) : ∃ d' h', R fn79 [d] h = some (d', h') ∧ h.length ≤ h'.length ∧ (∀ q, q < h.length → h'[q]? = h[q]?) ∧
  ((l = [] ∧ (d' = .nils ∨ d' = .sl 3 true [])) ∨ ∃ ob, h.length ≤ ob ∧ d' = .msl 3 ob 0 l.length ∧ h'[ob]? = some (.row ty106 3 (l.map talr))) := by
 rcases hd with hd | ⟨ob0, rfl, ho0⟩
 ·exact u79 l d h hd hl
 rw [e79]
 by_cases hl0 : l = []
 ·subst hl0
  exact ⟨.sl 3 true [], h, by
   have hne : dBin tab .eql ty58 (.msl 3 ob0 0 0) .nils = some (.bool false) := id rfl
   have hap : dAppend tab h ty58 ty58 (.sl 3 true []) (.msl 3 ob0 0 0) = some (.sl 3 true [], h) := by
    have hsrc : dSrc h ti58 ti106 (.msl 3 ob0 0 0) = some [] := by
     have h1 : dRowsOf h 3 (.msl 3 ob0 0 0) = some [] := by simp [-bind_some, dRowsOf, ho0]
     have h2 : ti58.td = .sl ty106 := id rfl
     have h3 : ti106.sz = 3 := id rfl
     simp only [dSrc, h2, h3, h1]
    have h4 : tab ty58 = some ti58 := id rfl
    have h5 : ti58.td = .sl ty106 := id rfl
    have h6 : tab ty106 = some ti106 := id rfl
    have h7 : Nat.blt 0 ti106.sz = true := id rfl
    simp only [dAppend, h4, h5, h6, h7, hsrc]
   simp [-bind_some, F79, hne, hap], Nat.le_refl _, fun _ _ => rfl, .inl ⟨rfl, .inr rfl⟩⟩
 ·obtain ⟨x', h', e, hl', hq, ho⟩ := app_full (T := tab) (t := ty58) (i := ti58) (j := ti106) (h := h) (id rfl) (id rfl) (id rfl) (by decide) (y := .msl 3 ob0 0 l.length) (show dRowsOf h 3 _ = some (l.map talr) by simp [-bind_some, dRowsOf, ho0]; exact List.take_of_length_le (by simp)) (lim_ok (by have : ti106.by_ = 32 := rfl; rw [this, List.length_map]; omega) (by rw [List.length_map]; omega))
  have e' : dAppend tab h ty58 ty58 (.sl 3 true []) (.msl 3 ob0 0 l.length) = some (x', h') := e
  have hne : dBin tab .eql ty58 (.msl 3 ob0 0 l.length) .nils = some (.bool false) := id rfl
  refine ⟨x', h', ?_, hl', hq, ?_⟩
  ·simp only [F79, bs, hne, dIf_bool, Bool.false_eq_true, if_false, bs58_0, e', mkRes_one]
  ·rcases ho with ⟨rfl, hn⟩ | ⟨rfl, hn⟩ | ⟨ob, h1, rfl, h2⟩
   ·have : l = [] := by simpa using hn
    exact .inl ⟨this, .inr rfl⟩
   ·have : l = [] := by simpa using hn
    exact .inl ⟨this, .inl rfl⟩
   ·exact .inr ⟨ob, h1, by rw [List.length_map]; rfl, h2⟩
theorem s59r (l : List Tal) (d : D) (hst : Int) (rule : Str) (n : Int) (h : Hp) (hd : RdT h l d) (hl : l.length ≤ 1000000) (hs : TAsc l) :
  ∃ d', R fn59 [d, .int .i64 hst, .str rule, .int .i64 n] h = some (d', h) ∧ SlOf 3 talr (addT l hst rule n) d' := by
 suffices Wp (R fn59 [d, .int .i64 hst, .str rule, .int .i64 n] h) (fun p => p.2 = h ∧ SlOf 3 talr (addT l hst rule n) p.1) by
  obtain ⟨⟨x, h'⟩, h1, rfl, h2⟩ := this
  exact ⟨x, h1, h2⟩
 rw [e59]
 obtain ⟨d1, h1, e1, hl1, hb1, hd1⟩ := u79r l d h hd hl
 simp only [F59, bs, e1, dBin_lss]
 refine Wp.dif (fun hn => ?_) (fun hn => ?_)
 ·have hn : n < 1 := by simpa using hn
  have ha : addT l hst rule n = l := by simp [-bind_some, addT, hn]
  rw [ha]
  rcases hd1 with ⟨rfl, rfl | rfl⟩ | ⟨ob, hob, rfl, ho⟩
  ·simp only [mkRes_one, bs]
   rw [scope_eq rfl (by simp; exact .nils) hl1 hb1]
   exact .some ⟨rfl, by simpa using SlOf.nils _ _⟩
  ·have hsl : SlOf 3 talr [] (.sl 3 true []) := .inr ⟨true, rfl⟩
   simp only [mkRes_one, bs]
   rw [scope_eq (d' := .sl 3 true []) rfl (slof_ok hsl fun a _ => talr_ok _ a) hl1 hb1]
   exact .some ⟨rfl, hsl⟩
  ·have ow : Own h1 h.length ty106 3 (l.map talr) (.msl 3 ob 0 l.length) := .inr ⟨ob, hob, by simp, ho⟩
   have hsl := own_sl (n0 := h.length) (n := 3) ow (Nat.le_refl _) (fun a _ => talr_frz _ h1 _ a)
   simp only [mkRes_one, bs]
   rw [scope_eq rfl (slof_ok hsl fun a _ => talr_ok _ a) hl1 hb1]
   exact .some ⟨rfl, hsl⟩
 ·have hn : ¬ n < 1 := by simpa using hn
  have ha : addT l hst rule n = addK l hst rule n (kT ⟨hst, rule, 0⟩ l) := by simp [-bind_some, addT, hn]
  rw [ha]
  have hrd : RdT h1 l d1 := by
   rcases hd1 with ⟨rfl, rfl | rfl⟩ | ⟨ob, hob, rfl, ho⟩
   ·exact .inl (.nils _ _)
   ·exact .inl (.inr ⟨true, rfl⟩)
   ·exact .inr ⟨ob, rfl, ho⟩
  have hk := kT_le ⟨hst, rule, 0⟩ l
  have h80 := s80 l d1 hst rule h1 hrd hl (kT ⟨hst, rule, 0⟩ l) hk (kT_lt _ l) (kT_ge _ l hs)
  generalize kT ⟨hst, rule, 0⟩ l = k at hk h80
  simp only [h80, bs, dExtract_tup, List.getElem?_cons_zero, List.getElem?_cons_succ, dUn_not]
  refine Wp.join (P := fun r => ∃ (d2 : D) (h2 : Hp) (ob : Nat) (L : List Tal) (x : Tal), r = (.nrm, [d2], h2) ∧ d2 = .msl 3 ob 0 L.length ∧ h.length ≤ ob ∧ h.length ≤ h2.length ∧ (∀ q, q < h.length → h2[q]? = h[q]?) ∧ h2[ob]? = some (.row ty106 3 (L.map talr)) ∧ L[k]? = some x ∧ L.set k ⟨x.h, x.r, IntKind.wrap .i64 (x.n + n)⟩ = addK l hst rule n k) ?_ ?_ ?_
  ·intro hf
   have hadd : addK l hst rule n k = l.take k ++ [⟨hst, rule, IntKind.wrap .i64 (0 + n)⟩] ++ l.drop k := by
    unfold addK
    cases hg : l[k]? with
    | none => rfl
    | some x =>
     rw [hg] at hf
     have : ¬ cmpT x ⟨hst, rule, 0⟩ = 0 := by simpa using hf
     simp [-bind_some, this]
   have hlt : (l.take k).length = k := by simp; omega
   have hL : (l.take k ++ [(⟨hst, rule, 0⟩ : Tal)] ++ l.drop k)[k]? = some ⟨hst, rule, 0⟩ := by
    rw [List.append_assoc, List.getElem?_append_right (by omega), hlt]; simp [-bind_some]
   have hset : (l.take k ++ [(⟨hst, rule, 0⟩ : Tal)] ++ l.drop k).set k ⟨hst, rule, IntKind.wrap .i64 (0 + n)⟩ = l.take k ++ [⟨hst, rule, IntKind.wrap .i64 (0 + n)⟩] ++ l.drop k := by
    rw [List.append_assoc, List.set_append_right _ _ (by omega), hlt]; simp [-bind_some]
   have hlen : (l.take k ++ [(⟨hst, rule, 0⟩ : Tal)] ++ l.drop k).length = l.length + 1 := by simp; omega
   have hmap : (l.take k ++ [(⟨hst, rule, 0⟩ : Tal)] ++ l.drop k).map talr = (l.map talr).take k ++ [[.int .i64 hst, .str rule, .int .i64 0]] ++ (l.map talr).drop k := by
    rw [List.map_append, List.map_append, List.map_take, List.map_drop]; rfl
   have hz : ti106.sz = 3 := rfl
   have hlim : lim (l.length + 1) ti106.by_ = true := lim106 (by omega)
   have hlim1 : lim 1 ti106.by_ = true := lim106 (by omega)
   simp only [bd106_0_1, bs58_1, bs, xins81]
   rcases hd1 with ⟨rfl, hdd⟩ | ⟨ob, hob, rfl, ho⟩
   ·have hk0 : k = 0 := by simpa using hk
    subst hk0
    have hi : dIns ty106 ti106 [d1, .int .i64 ((0 : Nat) : Int), .sl 3 true [[.int .i64 hst, .str rule, .int .i64 0]]] h1 = some (.msl 3 h1.length 0 1, dNew h1 ty106 3 [[.int .i64 hst, .str rule, .int .i64 0]]) := by
     rcases hdd with rfl | rfl <;> simp [-bind_some, dIns, hz, hlim1]
    rw [hi]
    simp only [bs]
    refine .some ⟨_, _, h1.length, [⟨hst, rule, 0⟩], ⟨hst, rule, 0⟩, rfl, rfl, hl1, ?_, fun q hq => ?_, dNew_get _ _ _ _, rfl, ?_⟩
    ·simp [-bind_some, dNew]; omega
    ·rw [dNew_old _ _ _ _ (by omega)]; exact hb1 q hq
    ·rw [hadd]; simp [-bind_some]
   ·have hi : dIns ty106 ti106 [.msl 3 ob 0 l.length, .int .i64 (k : Int), .sl 3 true [[.int .i64 hst, .str rule, .int .i64 0]]] h1 = some (.msl 3 h1.length 0 (l.length + 1), dNew (h1.set ob .dead) ty106 3 ((l.map talr).take k ++ [[.int .i64 hst, .str rule, .int .i64 0]] ++ (l.map talr).drop k)) := by
      have hkl : (k : Int) ≤ (l.length : Int) := by omega
      simp [-bind_some, dIns, hz, hlim, ho, hkl]
    rw [hi]
    simp only [bs]
    refine .some ⟨_, _, h1.length, l.take k ++ [⟨hst, rule, 0⟩] ++ l.drop k, ⟨hst, rule, 0⟩, rfl, by rw [hlen], hl1, ?_, fun q hq => ?_, ?_, hL, by rw [hadd]; exact hset⟩
    ·simp [-bind_some, dNew]; omega
    ·rw [dNew_old _ _ _ _ (by simp; omega), List.getElem?_set_ne (by omega)]; exact hb1 q hq
    ·have := dNew_get (h1.set ob .dead) ty106 3 ((l.take k ++ [(⟨hst, rule, 0⟩ : Tal)] ++ l.drop k).map talr)
     simp only [List.length_set] at this
     rw [hmap] at this ⊢
     exact this
  ·intro hf
   cases hg : l[k]? with
   | none => rw [hg] at hf; simp at hf
   | some x =>
    rw [hg] at hf
    have hc : cmpT x ⟨hst, rule, 0⟩ = 0 := by simpa using hf
    rcases hd1 with ⟨rfl, hdd⟩ | ⟨ob, hob, rfl, ho⟩
    ·simp at hg
    ·refine .some ⟨_, _, ob, l, x, rfl, rfl, hob, hl1, hb1, ho, hg, ?_⟩
     simp [-bind_some, addK, hg, hc]
  ·rintro _ ⟨d2, h2, ob, L, x, rfl, rfl, hob, hl2, hb2, ho, hx, hfin⟩
   have hkL : k < L.length := (List.getElem?_eq_some_iff.1 hx).1
   have hkl2 : (0 : Int) ≤ (k : Int) ∧ (k : Int) < (L.length : Int) := by omega
   have hr : (L.map talr)[k]? = some (talr x) := by rw [List.getElem?_map, hx]; rfl
   simp only [toEnd_nrm, nth_zero, bs, ixm58, hkl2, and_self, if_true, fap106_2, Int.toNat_natCast, Nat.zero_add, ldp3, row_of ho, hr]
   simp only [talr, List.drop_succ_cons, List.drop_zero, List.head?_cons, bs, dBin_add]
   simp only [Option.bind_assoc, bs]
   refine wst3 (off := 2) (v := .int .i64 (IntKind.wrap .i64 (x.n + n))) ho hr rfl (by simp [-bind_some, talr]) rfl fun h3 q3 s3 => ?_
   have hset : (L.map talr).set k (spl (talr x) 2 (cells1 (.int .i64 (IntKind.wrap .i64 (x.n + n))))) = (addK l hst rule n k).map talr := by
    rw [← hfin, List.map_set]; rfl
   rw [hset] at q3
   simp only [bs, mkRes_one]
   have hlen : (addK l hst rule n k).length = L.length := by rw [← hfin]; simp [-bind_some]
   have ow : Own h3 h.length ty106 3 ((addK l hst rule n k).map talr) (.msl 3 ob 0 L.length) := .inr ⟨ob, hob, by simp [-bind_some, hlen], q3⟩
   have hsl := own_sl (n0 := h.length) (n := 3) ow (Nat.le_refl _) (fun a _ => talr_frz _ h3 _ a)
   rw [scope_eq rfl (slof_ok hsl fun a _ => talr_ok _ a) (by have := s3.1; omega) (fun q hq => (s3.2 q (by omega)).trans (hb2 q hq))]
   exact .some ⟨rfl, hsl⟩
theorem s1097 {g : Hp} {w : Nat} {dm dt de : D} {ts : List Tal} (hw : g[w]? = some (.row ty1073 3 [[dm, dt, de]])) (ht : RdT g ts dt) (hl : ts.length ≤ 1000000) (hs : TAsc ts) (hst : Int) (rule : Str) (n : Int) :
  ∃ dt' g', R fn1097 [.ptr w 0 0, .int .i64 hst, .str rule, .int .i64 n] g = some (.tup [], g') ∧ g'[w]? = some (.row ty1073 3 [[dm, dt', de]]) ∧ SlOf 3 talr (addT ts hst rule n) dt' ∧ Same w g g' := by
 suffices Wp (R fn1097 [.ptr w 0 0, .int .i64 hst, .str rule, .int .i64 n] g) (fun p => p.1 = .tup [] ∧ ∃ dt', p.2[w]? = some (.row ty1073 3 [[dm, dt', de]]) ∧ SlOf 3 talr (addT ts hst rule n) dt' ∧ Same w g p.2) by
  obtain ⟨⟨x, g'⟩, h1, rfl, dt', h2⟩ := this
  exact ⟨dt', g', h1, h2⟩
 rw [e1097]
 obtain ⟨d', hs', hd'⟩ := s59r ts dt hst rule n g ht hl hs
 have oc := one_cells (slof_one hd')
 simp only [F1097, bs, nilCheck_ptr, fap1073_0, fap1009_1, ldp58, row_of hw, List.getElem?_cons_zero, Nat.zero_add, List.drop_succ_cons, List.drop_zero, List.head?_cons, hs', Option.bind_assoc]
 refine wst58 (off := 1) hw rfl (by rw [oc.1]; rfl) (by simp) oc.2 fun g' q s => ?_
 rw [oc.1] at q
 try simp only [bs]
 exact .some ⟨rfl, d', q, hd', s⟩
def LvF (h : Hp) (n0 : Nat) (l : List (Str × Str)) (d : D) : Prop := (l = [] ∧ SlOf 2 fld [] d) ∨ ∃ ob, n0 ≤ ob ∧ d = .msl 2 ob 0 l.length ∧ h[ob]? = some (.row ty109 2 (l.map fld))
theorem LvF.one {h : Hp} {n0 : Nat} {l : List (Str × Str)} {d : D} (hd : LvF h n0 l d) : d.one = true := by
 rcases hd with ⟨_, hd⟩ | ⟨ob, _, rfl, _⟩
 ·exact slof_one hd
 ·rfl
theorem LvF.keep {h h' : Hp} {n0 : Nat} {l : List (Str × Str)} {d : D} (hd : LvF h n0 l d) (hk : ∀ q, n0 ≤ q → h'[q]? = h[q]?) : LvF h' n0 l d := by
 rcases hd with hd | ⟨ob, h1, h2, h3⟩
 ·exact .inl hd
 ·exact .inr ⟨ob, h1, h2, (hk ob h1).trans h3⟩
theorem LvF.frz {h : Hp} {n0 n1 n : Nat} {l : List (Str × Str)} {d : D} (hd : LvF h n1 l d) (hn : n0 ≤ n1) : SlOf 2 fld l (frz n0 h (n + 1) d) := by
 rcases hd with ⟨rfl, hd⟩ | ⟨ob, h1, rfl, h3⟩
 ·rw [slof_frz hd (fun a ha => by cases ha)]; exact hd
 ·have ow : Own h n1 ty109 2 (l.map fld) (.msl 2 ob 0 l.length) := .inr ⟨ob, h1, by simp, h3⟩
  exact own_sl ow hn (fun a _ => fld_frz _ h _ a)
theorem s1002u (i : It) (n : Int) (h : Hp) (hl : i.e.ls.length ≤ 1000000) (hf : i.e.fs.length ≤ 1000000) : ∃ j, R fn1002 [.agg (itr i), .int .i64 n] h = some (.tup [.agg (itr j), .bool (decide (¬ idx (fun l => decide (l.off = n)) 0 i.e.ls < 1))], h) ∧ (if idx (fun l => decide (l.off = n)) 0 i.e.ls < 1 then j = it0 else CutOf i n (idx (fun l => decide (l.off = n)) 0 i.e.ls).toNat j) := by
 suffices Wp (R fn1002 [.agg (itr i), .int .i64 n] h) (fun p => p.2 = h ∧ ∃ j, p.1 = .tup [.agg (itr j), .bool (decide (¬ idx (fun l => decide (l.off = n)) 0 i.e.ls < 1))] ∧ (if idx (fun l => decide (l.off = n)) 0 i.e.ls < 1 then j = it0 else CutOf i n (idx (fun l => decide (l.off = n)) 0 i.e.ls).toNat j)) by
  obtain ⟨⟨x, h'⟩, h1, rfl, j, rfl, h2⟩ := this
  exact ⟨j, h1, h2⟩
 rw [e1002]
 simp only [F1002, bs, Option.bind_assoc, pBoxF_int]
 rw [wBox_agg ty74 11 h (itr i) rfl (by omega)]
 generalize hg0 : dNew h ty74 11 [itr i] = g0
 have hgl : g0.length = h.length + 1 := by simp [-bind_some, ← hg0, dNew]
 have hb : ∀ q, q < h.length → g0[q]? = h[q]? := fun q hq => by simp only [← hg0, dNew]; rw [List.getElem?_append_left hq]
 have p8 : g0[h.length]? = some (.row ty74 11 [itr i]) := by simp [-bind_some, ← hg0, dNew]
 clear hg0
 simp only [bs, hgl]
 generalize hg1 : dNew g0 ty74 11 [[.str [], .int .i64 0, .int .i64 0, .int .i64 0, .int .i64 0, .nils, .int .i64 0, .int .i64 0, .str [], .str [], .nils]] = g1
 have hgl1 : g1.length = h.length + 2 := by simp [-bind_some, ← hg1, dNew, hgl]
 have hb1 : ∀ q, q < h.length + 1 → g1[q]? = g0[q]? := fun q hq => by simp only [← hg1, dNew]; rw [List.getElem?_append_left (by omega)]
 have p9 : g1[h.length + 1]? = some (.row ty74 11 [[.str [], .int .i64 0, .int .i64 0, .int .i64 0, .int .i64 0, .nils, .int .i64 0, .int .i64 0, .str [], .str [], .nils]]) := by
  simp only [← hg1, dNew]; rw [← hgl, List.getElem?_append_right (Nat.le_refl _)]; simp [-bind_some]
 replace p8 := (hb1 h.length (by omega)).trans p8
 replace hb : ∀ q, q < h.length → g1[q]? = h[q]? := fun q hq => (hb1 q (by omega)).trans (hb q hq)
 clear hg1 hb1 hgl
 have r8 : g1.row h.length 0 = some [.str i.r, .int .i64 i.e.a0, .int .i64 i.e.a1, .int .i64 i.e.a2, .int .i64 i.e.a3, i.e.ld, .int .i64 i.e.a5, .int .i64 i.e.a6, .str i.e.s7, .str i.e.s8, i.e.fd] := row_of p8
 simp only [fap74_1, fap31_4, bs, ldp28, r8, List.drop_succ_cons, List.drop_zero, List.head?_cons, Nat.zero_add]
 rw [s1006 i.e.ls i.e.ld _ (fun l => decide (l.off = n)) g1 i.e.hld i.e.hll (fun x => by rw [callV_some]; exact s1007 x n g1)]
 generalize hk : idx (fun l => decide (l.off = n)) 0 i.e.ls = kk
 have hkr := idx_range (fun l : Lin => decide (l.off = n)) i.e.ls 0
 rw [hk] at hkr
 simp only [bs, dBin_lss]
 refine Wp.dif ?_ ?_
 ·intro hlt
  have hlt : kk < 1 := by simpa using hlt
  simp only [bd74_, bs]
  refine wst74 p9 (by rfl) (by rfl) (by simp) (by rfl) fun g2 q9 s2 => ?_
  replace q9 : g2[h.length + 1]? = some (.row ty74 11 [itr it0]) := q9
  simp only [ldob11 q9 rfl, bs, mkRes_two]
  rw [scope_eq (d' := .tup [.agg (itr it0), .bool false]) (by rfl) (.tup _ fun d hd => by
   simp at hd
   rcases hd with rfl | rfl
   ·exact itr_ok _ _
   ·constructor) (by have := s2.1; omega) (fun q hq => (s2.2 q (by omega)).trans (hb q hq))]
  exact .some ⟨rfl, it0, by simp [-bind_some, hlt], by simp [-bind_some, hlt]⟩
 ·intro hlt
  have hlt : ¬ kk < 1 := by simpa using hlt
  have hk1 : kk < i.e.ls.length := by
   rcases hkr with hh | ⟨_, hh⟩
   ·omega
   ·simpa using hh
  obtain ⟨y1, hs1, hy1⟩ := slof_lo (T := tab) (t := ty28) (i := ti28) (j := ti78) (id rfl) (id rfl) (id rfl) (id rfl) i.e.hld (k := .i64) (n := kk) (by omega) (by omega)
  obtain ⟨y2, hs2, hy2⟩ := s1008 _ y1 g1 hy1 (by simp; omega)
  simp only [ld3, hs1, hs2, bs, fap74_1, fap31_2, fap31_4, Nat.zero_add, chk_true]
  refine wst3 p8 (by rfl) (by rfl) (by simp [-bind_some, itr, evr]) (by rfl) fun g2 q8 t2 => ?_
  have oc := one_cells (slof_one hy2)
  refine wst28 q8 (by rfl) (by rw [oc.1]; rfl) (by simp [-bind_some, spl, cells1, itr, evr]) oc.2 fun g3 q8' t3 => ?_
  rw [oc.1] at q8'
  replace q8 : g3[h.length]? = some (.row ty74 11 [[.str i.r, .int .i64 i.e.a0, .int .i64 i.e.a1, .int .i64 n, .int .i64 i.e.a3, y2, .int .i64 i.e.a5, .int .i64 i.e.a6, .str i.e.s7, .str i.e.s8, i.e.fd]]) := q8'
  replace t2 := t2.trans t3
  clear q8' t3 hs1 hy1 oc
  have r8 : g3.row h.length 0 = some [.str i.r, .int .i64 i.e.a0, .int .i64 i.e.a1, .int .i64 n, .int .i64 i.e.a3, y2, .int .i64 i.e.a5, .int .i64 i.e.a6, .str i.e.s7, .str i.e.s8, i.e.fd] := row_of q8
  obtain ⟨y3, g3', hs3, hl3, hb3, hy3⟩ := u1009 _ _ g3 i.e.hfd hf
  have hg3l : h.length + 2 ≤ g3.length := by have := t2.1; omega
  have hlv : LvF g3' (h.length + 2) i.e.fs y3 := by
   rcases hy3 with hy3 | ⟨ob, h1, h2⟩
   ·exact .inl hy3
   ·exact .inr ⟨ob, by omega, h2⟩
  simp only [bs, fap31_9, Nat.zero_add, ldp29, r8, List.drop_succ_cons, List.drop_zero, List.head?_cons, hs3]
  have oc := one_cells hlv.one
  replace q8 := (hb3 _ (by omega)).trans q8
  replace p9 := (hb3 (h.length + 1) (by omega)).trans ((t2.2 (h.length + 1) (by omega)).trans p9)
  refine wst29 q8 (by rfl) (by rw [oc.1]; rfl) (by simp) oc.2 fun g4 q8' t4 => ?_
  rw [oc.1] at q8'
  have hlv4 := hlv.keep (h' := g4) fun q hq => t4.2 q (by omega)
  replace q8 : g4[h.length]? = some (.row ty74 11 [[.str i.r, .int .i64 i.e.a0, .int .i64 i.e.a1, .int .i64 n, .int .i64 i.e.a3, y2, .int .i64 i.e.a5, .int .i64 i.e.a6, .str i.e.s7, .str i.e.s8, y3]]) := q8'
  replace hb : ∀ q, q < h.length → g4[q]? = h[q]? := fun q hq => (t4.2 q (by omega)).trans ((hb3 q (by omega)).trans ((t2.2 q (by omega)).trans (hb q hq)))
  replace p9 := (t4.2 (h.length + 1) (by omega)).trans p9
  have hg4l : h.length + 2 ≤ g4.length := by have := t4.1; omega
  clear q8' t2 t4 hs3 oc r8 hb3 hl3
  have hrow : ([.str i.r, .int .i64 i.e.a0, .int .i64 i.e.a1, .int .i64 n, .int .i64 i.e.a3, y2, .int .i64 i.e.a5, .int .i64 i.e.a6, .str i.e.s7, .str i.e.s8, y3] : List D).length = 11 := rfl
  have hok : (D.agg [.str i.r, .int .i64 i.e.a0, .int .i64 i.e.a1, .int .i64 n, .int .i64 i.e.a3, y2, .int .i64 i.e.a5, .int .i64 i.e.a6, .str i.e.s7, .str i.e.s8, y3]).okv = true := by
   have o1 := slof_one hy2
   have o2 := hlv4.one
   clear hlv hlv4 q8 hy3 hs2
   cases y2 <;> first | (cases y3 <;> first | rfl | (simp [-bind_some, D.one] at o2)) | (simp [-bind_some, D.one] at o1)
  simp only [ldob11 q8 hrow, bs]
  refine wst74 p9 (by rfl) (by rfl) (by simp) hok fun g5 q9 t5 => ?_
  replace q9 : g5[h.length + 1]? = some (.row ty74 11 [[.str i.r, .int .i64 i.e.a0, .int .i64 i.e.a1, .int .i64 n, .int .i64 i.e.a3, y2, .int .i64 i.e.a5, .int .i64 i.e.a6, .str i.e.s7, .str i.e.s8, y3]]) := q9
  simp only [ldob11 q9 hrow, bs, mkRes_two]
  have hsl := (hlv4.keep (h' := g5) fun q hq => t5.2 q (by omega)).frz (n0 := h.length) (n := 1) (by omega)
  have hf2 := slof_frz (n0 := h.length) (h := g5) (n := 1) hy2 (fun a _ => linr_frz _ g5 _ a)
  generalize hj : (⟨i.r, ⟨i.e.a0, i.e.a1, n, i.e.a3, i.e.ls.drop kk.toNat, y2, i.e.a5, i.e.a6, i.e.s7, i.e.s8, i.e.fs, frz h.length g5 2 y3, hsl, i.e.hl, hy2, by have := i.e.hll; simp [-bind_some]; omega⟩⟩ : It) = j
  have hcut : CutOf i n kk.toNat j := by subst hj; exact ⟨rfl, rfl, rfl, rfl, rfl, rfl, rfl, rfl, rfl, rfl, rfl⟩
  have hfz : frz h.length g5 4 (.tup [.agg [.str i.r, .int .i64 i.e.a0, .int .i64 i.e.a1, .int .i64 n, .int .i64 i.e.a3, y2, .int .i64 i.e.a5, .int .i64 i.e.a6, .str i.e.s7, .str i.e.s8, y3], .bool true]) = .tup [.agg (itr j), .bool true] := by
   subst hj
   simp only [frz_tup, frz_agg, List.map_cons, List.map_nil, frz_bool, frz_str, frz_int, hf2]
   rfl
  rw [scope_eq hfz (.tup _ fun d hd => by
   simp at hd
   rcases hd with rfl | rfl
   ·exact itr_ok _ _
   ·constructor) (by have := t5.1; omega) (fun q hq => (t5.2 q (by omega)).trans (hb q hq))]
  exact .some ⟨rfl, j, by simp [-bind_some, hlt], by simp [-bind_some, hlt]; exact hcut⟩
def evl (p : Ev × D) : List D := [.int .i64 p.1.a0, .int .i64 p.1.a1, .int .i64 p.1.a2, .int .i64 p.1.a3, p.1.ld, .int .i64 p.1.a5, .int .i64 p.1.a6, .str p.1.s7, .str p.1.s8, p.2]
def MkD (g : Hp) (n0 : Nat) (l : List Mrk) (d : D) : Prop := (l = [] ∧ (d = .nils ∨ d = .sl 3 true [])) ∨ ∃ ob, n0 ≤ ob ∧ d = .msl 3 ob 0 l.length ∧ g[ob]? = some (.row ty1006 3 (l.map mrkr))
theorem MkD.rd {g : Hp} {n0 : Nat} {l : List Mrk} {d : D} (h : MkD g n0 l d) : RdM g l d := by
 rcases h with ⟨rfl, rfl | rfl⟩ | ⟨ob, _, rfl, ho⟩
 ·exact .inl (.nils _ _)
 ·exact .inl (.inr ⟨true, rfl⟩)
 ·exact .inr ⟨ob, rfl, ho⟩
theorem MkD.one {g : Hp} {n0 : Nat} {l : List Mrk} {d : D} (h : MkD g n0 l d) : d.one = true := by
 rcases h with ⟨rfl, rfl | rfl⟩ | ⟨ob, _, rfl, ho⟩ <;> rfl
def TlD (g : Hp) (n0 : Nat) (l : List Tal) (d : D) : Prop := SlOf 3 talr l d ∨ ∃ ob, n0 ≤ ob ∧ d = .msl 3 ob 0 l.length ∧ g[ob]? = some (.row ty106 3 (l.map talr))
theorem TlD.rd {g : Hp} {n0 : Nat} {l : List Tal} {d : D} (h : TlD g n0 l d) : RdT g l d := by
 rcases h with h | ⟨ob, _, rfl, ho⟩
 ·exact .inl h
 ·exact .inr ⟨ob, rfl, ho⟩
theorem TlD.one {g : Hp} {n0 : Nat} {l : List Tal} {d : D} (h : TlD g n0 l d) : d.one = true := by
 rcases h with h | ⟨ob, _, rfl, ho⟩
 ·exact slof_one h
 ·rfl
structure WkI (n0 w : Nat) (g : Hp) (ms : List Mrk) (ts : List Tal) (evs : List (Ev × D)) (dm dt de : D) : Prop where
 len : n0 ≤ g.length
 wn : n0 ≤ w
 row : g[w]? = some (.row ty1073 3 [[dm, dt, de]])
 mr : MkD g n0 ms dm
 tl : TlD g n0 ts dt
 ev : Own g n0 ty31 10 (evs.map evl) de
 fs : ∀ p ∈ evs, LvF g n0 p.1.fs p.2
 ma : MAsc ms
 ta : TAsc ts
theorem WkI.chg {n0 w : Nat} {g g' : Hp} {ms : List Mrk} {ts ts' : List Tal} {evs : List (Ev × D)} {dm dt de dt' : D} (W : WkI n0 w g ms ts evs dm dt de) {z T sz : Nat} {rows : List (List D)} (hz : g[z]? = some (.row T sz rows)) (h1 : T ≠ ty1006) (h2 : T ≠ ty31) (h3 : T ≠ ty109) (hs : Same z g g')
  (hw : g'[w]? = some (.row ty1073 3 [[dm, dt', de]])) (ht : TlD g' n0 ts' dt') (hta : TAsc ts') : WkI n0 w g' ms ts' evs dm dt' de := by
 have ne : ∀ {q T' sz' : Nat} {rows' : List (List D)}, g[q]? = some (.row T' sz' rows') → T' ≠ T → q ≠ z := fun hq hn => row_ne hq hz hn
 refine ⟨by have := W.len; have := hs.1; omega, W.wn, hw, ?_, ht, ?_, fun p hp => ?_, W.ma, hta⟩
 ·rcases W.mr with h | ⟨ob, a, b, c⟩
  ·exact .inl h
  ·exact .inr ⟨ob, a, b, (hs.2 ob (ne c (Ne.symm h1))).trans c⟩
 ·rcases W.ev with h | ⟨ob, a, b, c⟩
  ·exact .inl h
  ·exact .inr ⟨ob, a, b, (hs.2 ob (ne c (Ne.symm h2))).trans c⟩
 ·rcases W.fs p hp with h | ⟨ob, a, b, c⟩
  ·exact .inl h
  ·exact .inr ⟨ob, a, b, (hs.2 ob (ne c (Ne.symm h3))).trans c⟩
theorem WkI.new {n0 w : Nat} {g g' : Hp} {ms : List Mrk} {ts : List Tal} {evs : List (Ev × D)} {dm dt de : D} (W : WkI n0 w g ms ts evs dm dt de) (hl : g.length ≤ g'.length) (hk : ∀ q, q < g.length → g'[q]? = g[q]?) : WkI n0 w g' ms ts evs dm dt de := by
 have lt : ∀ {q : Nat} {ob : Ob}, g[q]? = some ob → q < g.length := fun hq => (List.getElem?_eq_some_iff.1 hq).1
 refine ⟨by have := W.len; omega, W.wn, (hk w (lt W.row)).trans W.row, ?_, W.tl.imp id fun ⟨ob, a, b, c⟩ => ⟨ob, a, b, (hk ob (lt c)).trans c⟩, ?_, fun p hp => ?_, W.ma, W.ta⟩
 ·rcases W.mr with h | ⟨ob, a, b, c⟩
  ·exact .inl h
  ·exact .inr ⟨ob, a, b, (hk ob (lt c)).trans c⟩
 ·rcases W.ev with h | ⟨ob, a, b, c⟩
  ·exact .inl h
  ·exact .inr ⟨ob, a, b, (hk ob (lt c)).trans c⟩
 ·rcases W.fs p hp with h | ⟨ob, a, b, c⟩
  ·exact .inl h
  ·exact .inr ⟨ob, a, b, (hk ob (lt c)).trans c⟩
theorem WkI.chg0 {n0 w : Nat} {g g' : Hp} {ms : List Mrk} {ts : List Tal} {evs : List (Ev × D)} {dm dt de : D} (W : WkI n0 w g ms ts evs dm dt de) {z T sz : Nat} {rows : List (List D)} (hz : g[z]? = some (.row T sz rows)) (h1 : T ≠ ty1006) (h2 : T ≠ ty31) (h3 : T ≠ ty109) (h4 : T ≠ ty106) (hs : Same z g g')
  (hw : g'[w]? = some (.row ty1073 3 [[dm, dt, de]])) : WkI n0 w g' ms ts evs dm dt de :=
 W.chg hz h1 h2 h3 hs hw (W.tl.imp id fun ⟨ob, a, b, c⟩ => ⟨ob, a, b, (hs.2 ob (row_ne c hz (Ne.symm h4))).trans c⟩) W.ta
def dupR : Str := [42]
def tkO (mk : Int) (i : It) : Option (Option Nat) :=
 if i.e.a3 ≤ mk then some none
 else if mk < i.e.a2 then none
 else if i.e.a2 < mk then (if idx (fun l : Lin => decide (l.off = mk)) 0 i.e.ls < 1 then none else some (some (idx (fun l : Lin => decide (l.off = mk)) 0 i.e.ls).toNat))
 else some (some 0)
theorem fnd0 (l : List Mrk) (hst fil to_ : Int) : (match l[kM ⟨hst, fil, 0⟩ l]? with | some x => decide (cmpM x ⟨hst, fil, 0⟩ = 0) | none => false) = fndM l ⟨hst, fil, to_⟩ := by
 unfold fndM
 rw [kM_key ⟨hst, fil, to_⟩ ⟨hst, fil, 0⟩ rfl rfl]
 cases l[kM ⟨hst, fil, 0⟩ l]? with
 | none => rfl
 | some x => simp only; rw [cmpM_key x ⟨hst, fil, to_⟩ ⟨hst, fil, 0⟩ rfl rfl]
theorem lim1006 {n : Nat} (hn : n ≤ 1000001) : lim n ti1006.by_ = true := lim_ok (by have : ti1006.by_ = 24 := rfl; rw [this]; omega) (by omega)
end Go.Proofs.YthaajlepgblimaaDoor
