/- Laws, on plain data, about functions that the statement reaches. -/
import Derived.Test.YthaajlepgblimaaGreatDoorL1
set_option linter.unusedSimpArgs false
set_option linter.unusedVariables false
set_option linter.unnecessarySimpa false
set_option maxRecDepth 100000
namespace Go.Proofs.YthaajlepgblimaaGreatDoor
open Go.Eng Go.Pi
open Option (bind_some)
def evE (e : Ev) : Int :=
 if (!plB e || !(decide (0 ≤ e.a5) && decide (e.a5 ≤ 253402300799999))) = true then 2
 else if e.a6 < 1 ∨ Int.tmod 5040 e.a6 ≠ 0 then 21
 else if a2g e 2000 ≠ 0 then a2g e 2000
 else if 32 < e.s7.length ∨ 32 < e.s8.length then 3
 else if (a1N e.fs).1 ≠ 0 then (a1N e.fs).1
 else if (a1N e.fs).2 ≠ e.fs then 19
 else if ((a1N e.fs).2.any fun p => decide (2000 < p.2.length)) = true then 3 else 0
theorem b1a (l : List (Str × Str)) : (a1N l).2.length ≤ l.length := by
 unfold a1N
 split
 ·simp [-bind_some]
 ·split
  ·split
   ·simp [-bind_some]
   ·simp [-bind_some, b7V]
  ·simp [-bind_some]
theorem b9D (l : List (Str × Str)) : (a1N l).2.length ≤ 32 := by
 by_cases h : 32 < l.length
 ·simp [-bind_some, a1N, h]
 ·have := b1a l
  omega
theorem c5Z (e : Ev) (h : Hp) (hsrt : ∀ p : Hp, ∃ d' h', R b0r [e.fd] p = some (.tup [d', .int .i64 (a1N e.fs).1], h') ∧ p.length ≤ h'.length ∧ (∀ q, q < p.length → h'[q]? = p[q]?) ∧ ((a1N e.fs).1 = 0 → RdF h' (a1N e.fs).2 d')) : R b0p [.agg (evr e)] h = some (.int .i64 (evE e), h) := by
 apply Wp.val
 have sc : ∀ (g : Hp) (v : Int), h.length ≤ g.length → (∀ q, q < h.length → g[q]? = h[q]?) → scope h g (.int .i64 v) = some (.int .i64 v, h) := fun g v h1 h2 => a1i (by simp) (.int _ _) h1 h2
 have k1 := c2j e.a5 0 253402300799999 h
 rw [c7P]
 simp only [c3p, a1b, bs, d4X, evL, c6b, a0g]
 have q5 : a0a tab a0E 5 (.fptr (evr e)) = some (.fptr [.int .i64 e.a5, .int .i64 e.a6, .str e.s7, .str e.s8, e.fd]) := id rfl
 have q6 : a0a tab a0E 6 (.fptr (evr e)) = some (.fptr [.int .i64 e.a6, .str e.s7, .str e.s8, e.fd]) := id rfl
 have q7 : a0a tab a0E 7 (.fptr (evr e)) = some (.fptr [.str e.s7, .str e.s8, e.fd]) := id rfl
 have q8 : a0a tab a0E 8 (.fptr (evr e)) = some (.fptr [.str e.s8, e.fd]) := id rfl
 have q9 : a0a tab a0E 9 (.fptr (evr e)) = some (.fptr [e.fd]) := id rfl
 unfold evE
 generalize hb1 : plB e = b1
 generalize hb2 : (decide (0 ≤ e.a5) && decide (e.a5 ≤ 253402300799999)) = b2 at k1 ⊢
 have first : ∀ {β : Type} (f : D → D × Hp → D → Option β) (Q : β → Prop), (∀ x p t, p.2 = h → t = .bool (!b1 || !b2) → Wp (f x p t) Q) → Wp ((dUn .not (.bool b1)).bind fun t9 => (gd t9 false (some (.fptr [.int .i64 e.a5, .int .i64 e.a6, .str e.s7, .str e.s8, e.fd]))).bind fun t11 => (gd t9 false (a0c tab h ty3 t11)).bind fun t12 => (gdW t9 false h (R a8j [t12, .int .i64 0, .int .i64 253402300799999] h)).bind fun p13 => (gd t9 false (dUn .not p13.1)).bind fun t14 => (a0M t9 (.bool true) t14).bind fun t15 => f t9 p13 t15) Q := fun f Q hk => by
  cases b1
  ·simp only [a1m, d5j, bs, a0r, a0W, reduceCtorEq, if_false, a0e, if_true]
   exact hk _ _ _ rfl rfl
  ·simp only [a1m, d5i, bs, a0r, a0W, if_true, ld3, k1, a0e, d4Y, if_false]
   exact hk _ _ _ rfl (by simp)
 simp only [q5, q6, q7, q8, q9]
 refine first _ _ fun x p t hp ht => ?_
 subst ht
 obtain ⟨px, p⟩ := p
 simp only at hp
 subst hp
 clear first
 simp only [a0d]
 by_cases c1 : (!b1 || !b2) = true
 ·simp only [c1, if_true, sc _ _ (Nat.le_refl _) (fun _ _ => rfl)]
  exact .some rfl
 simp only [c1, if_false, d4Y, ld3, ld9, b4u, bs, a0j, a4x, a0v, a3R, a0t]
 by_cases c2 : e.a6 < 1
 ·simp only [c2, true_or, decide_true, if_true, a0r, reduceCtorEq, if_false, d4Z, bs, a0e, a0d, sc _ _ (Nat.le_refl _) (fun _ _ => rfl)]
  exact .some rfl
 have c20 : ¬ e.a6 = 0 := by omega
 by_cases c3n : ¬ Int.tmod 5040 e.a6 = 0
 ·have c3 := c3n
  simp only [c2, c20, c3, ne_eq, not_false_eq_true, or_true, decide_true, decide_false, if_true, a0r, if_false, d4Y, bs, a0e, a0d, ld3, a3R, a0t, sc _ _ (Nat.le_refl _) (fun _ _ => rfl)]
  exact .some rfl
 have c3 : Int.tmod 5040 e.a6 = 0 := Decidable.not_not.1 c3n
 simp only [c2, c20, c3, ne_eq, not_true, or_self, decide_false, if_true, a0r, if_false, d4Y, bs, a0e, a0d, ld3, a3R, a0t, c6c]
 generalize hL : a2g e 2000 = L
 by_cases c4n : ¬ L = 0
 ·have c4 := c4n
  simp only [c4, ne_eq, not_false_eq_true, decide_true, if_true, sc _ _ (Nat.le_refl _) (fun _ _ => rfl)]
  exact .some rfl
 have c4 : L = 0 := Decidable.not_not.1 c4n
 subst c4
 simp only [ne_eq, not_true, decide_false, d4Y, if_false, if_true]
 by_cases c5 : 32 < e.s7.length
 ·have c5' : (32 : Int) < (e.s7.length : Int) := by omega
  simp only [c5, c5', true_or, decide_true, if_true, a0r, reduceCtorEq, if_false, d4Z, bs, a0e, a0d, sc _ _ (Nat.le_refl _) (fun _ _ => rfl)]
  exact .some rfl
 have c5' : ¬ (32 : Int) < (e.s7.length : Int) := by omega
 by_cases c6 : 32 < e.s8.length
 ·have c6' : (32 : Int) < (e.s8.length : Int) := by omega
  simp only [c5, c5', c6, c6', or_true, decide_true, decide_false, if_true, a0r, if_false, d4Y, bs, ld9, a4x, a0v, a0e, sc _ _ (Nat.le_refl _) (fun _ _ => rfl)]
  exact .some rfl
 have c6' : ¬ (32 : Int) < (e.s8.length : Int) := by omega
 obtain ⟨d', h', hs, hl', hb', hr'⟩ := hsrt p
 simp only [c5, c5', c6, c6', or_self, decide_false, if_true, a0r, if_false, d4Y, bs, ld9, a4x, a0v, a0e, a0d, hs, a0A, d5a, d5b]
 have hsl := b9D e.fs
 generalize hS : a1N e.fs = S at hs hr' hsl
 obtain ⟨v, s⟩ := S
 simp only at hr' hsl ⊢
 by_cases c7n : ¬ v = 0
 ·have c7 := c7n
  simp only [c7, ne_eq, not_false_eq_true, decide_true, if_true, sc _ _ hl' hb', a0d, a0t, bs]
  exact .some rfl
 have c7 : v = 0 := Decidable.not_not.1 c7n
 subst c7
 have hr := hr' rfl
 have hfd : RdF h' e.fs e.fd := .inl e.hfd
 simp only [ne_eq, not_true, decide_false, d4Y, if_false, a0d, a0t, d1l s e.fs d' e.fd h' hr hfd (by omega), bs, a1m, d1m s d' h' hr (by omega)]
 by_cases c8n : ¬ s = e.fs
 ·have c8 := c8n
  simp only [c8, not_false_eq_true, decide_false, d5j, if_true, sc _ _ hl' hb', a0d, a0t, bs]
  exact .some rfl
 have c8 : s = e.fs := Decidable.not_not.1 c8n
 subst c8
 simp only [not_true, decide_true, d5i, if_false, d4Y, sc _ _ hl' hb', a0d, a0t, bs]
 split
 ·exact .some rfl
 ·exact .some rfl
def itE (i : It) : Int :=
 if i.r = [] then evE i.e
 else if 32 < i.r.length then 3
 else if plB i.e = false then 2
 else if a2g i.e 60000 = 9 ∨ a2g i.e 60000 = 4 ∨ a2g i.e 60000 = 19 then a2g i.e 60000
 else if i.e.a5 ≠ 0 ∨ i.e.a6 ≠ 0 ∨ i.e.s7 ≠ [] ∨ i.e.s8 ≠ [] ∨ i.e.fs.length ≠ 0 ∨ (i.e.ls.any fun p => !(p.txt == [])) = true then 19 else 0
theorem c5Y (i : It) (h : Hp) (hc : R b0p [.agg (evr i.e)] h = some (.int .i64 (evE i.e), h)) : R a5P [.agg (itr i)] h = some (.int .i64 (itE i), h) := by
 have hbx : a6t 10 (.agg (evr i.e)) = some (.fptr (evr i.e)) := a3i 10 _ rfl
 have q4 : a0a tab a0E 4 (.fptr (evr i.e)) = some (.fptr [i.e.ld, .int .i64 i.e.a5, .int .i64 i.e.a6, .str i.e.s7, .str i.e.s8, i.e.fd]) := id rfl
 have q5 : a0a tab a0E 5 (.fptr (evr i.e)) = some (.fptr [.int .i64 i.e.a5, .int .i64 i.e.a6, .str i.e.s7, .str i.e.s8, i.e.fd]) := id rfl
 have q6 : a0a tab a0E 6 (.fptr (evr i.e)) = some (.fptr [.int .i64 i.e.a6, .str i.e.s7, .str i.e.s8, i.e.fd]) := id rfl
 have q7 : a0a tab a0E 7 (.fptr (evr i.e)) = some (.fptr [.str i.e.s7, .str i.e.s8, i.e.fd]) := id rfl
 have q8 : a0a tab a0E 8 (.fptr (evr i.e)) = some (.fptr [.str i.e.s8, i.e.fd]) := id rfl
 have q9 : a0a tab a0E 9 (.fptr (evr i.e)) = some (.fptr [i.e.fd]) := id rfl
 rw [c7O]
 simp only [c3o, a1b, bs, c1J, c0m, c1K, evL, hbx, a2c, a0g]
 unfold itE
 by_cases c0 : i.r = []
 ·simp only [c0, beq_self_eq_true, a0d, if_true, hc, bs]
 have c0' : (i.r == []) = false := by simpa using c0
 simp only [c0, c0', a0d, d4Y, if_false, a4x, bs, a0v]
 by_cases c1 : 32 < i.r.length
 ·have c1' : (32 : Int) < (i.r.length : Int) := by omega
  simp only [c1, c1', decide_true, if_true]
 have c1' : ¬ (32 : Int) < (i.r.length : Int) := by omega
 simp only [c1, c1', decide_false, d4Y, if_false, c6b, bs, a1m]
 cases hb : plB i.e
 ·simp only [d5j, a0d, if_true]
 simp only [d5i, a0d, d4Y, d4Z, if_false, c6c, bs, a0R]
 generalize a2g i.e 60000 = L
 by_cases c2 : L = 9
 ·subst c2
  simp [-bind_some]
 by_cases c3 : L = 4
 ·subst c3
  simp [-bind_some]
 by_cases c4 : L = 19
 ·subst c4
  simp [-bind_some]
 simp only [c2, c3, c4, or_self, decide_false, a0r, if_true, bs, a0e, a0d, d4Y, if_false, q5, q6, q7, q8, q9, q4, ld3, ld9, b4u, a8p, a0t]
 have hfl : (i.e.fs.length : Int) = 0 ↔ i.e.fs.length = 0 := by omega
 have h49 := d1j i.e.ls i.e.ld h i.e.hld i.e.hll
 generalize (i.e.ls.any fun p => !(p.txt == [])) = bb at h49 ⊢
 by_cases d1n : ¬ i.e.a5 = 0
 ·simp only [c2, c3, c4, a0R, d1n, ne_eq, not_true, not_false_eq_true, true_or, or_true, false_or, or_false, decide_true, decide_false, a0r, a0W, a1f, a3T, reduceCtorEq, if_true, if_false, d4Y, d4Z, bs, a0e, a0d, ld3, ld9, b4u, a8p, a0t, a1U, a1W i.e.hfd, hfl, h49, beq_self_eq_true, d5i, d5j, or_self]
 have d1 : i.e.a5 = 0 := Decidable.not_not.1 d1n
 by_cases d2n : ¬ i.e.a6 = 0
 ·simp only [c2, c3, c4, a0R, d1, d2n, ne_eq, not_true, not_false_eq_true, true_or, or_true, false_or, or_false, decide_true, decide_false, a0r, a0W, a1f, a3T, reduceCtorEq, if_true, if_false, d4Y, d4Z, bs, a0e, a0d, ld3, ld9, b4u, a8p, a0t, a1U, a1W i.e.hfd, hfl, h49, beq_self_eq_true, d5i, d5j, or_self]
 have d2 : i.e.a6 = 0 := Decidable.not_not.1 d2n
 by_cases d3n : ¬ i.e.s7 = []
 ·have d3b : (i.e.s7 == []) = false := by simpa using d3n
  simp only [c2, c3, c4, a0R, d1, d2, d3n, d3b, ne_eq, not_true, not_false_eq_true, true_or, or_true, false_or, or_false, decide_true, decide_false, a0r, a0W, a1f, a3T, reduceCtorEq, if_true, if_false, d4Y, d4Z, bs, a0e, a0d, ld3, ld9, b4u, a8p, a0t, a1U, a1W i.e.hfd, hfl, h49, beq_self_eq_true, d5i, d5j, or_self]
 have d3 : i.e.s7 = [] := Decidable.not_not.1 d3n
 by_cases d4n : ¬ i.e.s8 = []
 ·have d4b : (i.e.s8 == []) = false := by simpa using d4n
  simp only [c2, c3, c4, a0R, d1, d2, d3, d4n, d4b, ne_eq, not_true, not_false_eq_true, true_or, or_true, false_or, or_false, decide_true, decide_false, a0r, a0W, a1f, a3T, reduceCtorEq, if_true, if_false, d4Y, d4Z, bs, a0e, a0d, ld3, ld9, b4u, a8p, a0t, a1U, a1W i.e.hfd, hfl, h49, beq_self_eq_true, d5i, d5j, or_self]
 have d4 : i.e.s8 = [] := Decidable.not_not.1 d4n
 by_cases d5n : ¬ i.e.fs.length = 0
 ·simp only [c2, c3, c4, a0R, d1, d2, d3, d4, d5n, ne_eq, not_true, not_false_eq_true, true_or, or_true, false_or, or_false, decide_true, decide_false, a0r, a0W, a1f, a3T, reduceCtorEq, if_true, if_false, d4Y, d4Z, bs, a0e, a0d, ld3, ld9, b4u, a8p, a0t, a1U, a1W i.e.hfd, hfl, h49, beq_self_eq_true, d5i, d5j, or_self]
 have d5 : i.e.fs.length = 0 := Decidable.not_not.1 d5n
 simp only [c2, c3, c4, a0R, d1, d2, d3, d4, d5, ne_eq, not_true, not_false_eq_true, true_or, or_true, false_or, or_false, decide_true, decide_false, a0r, a0W, a1f, a3T, reduceCtorEq, if_true, if_false, d4Y, d4Z, bs, a0e, a0d, ld3, ld9, b4u, a8p, a0t, a1U, a1W i.e.hfd, hfl, h49, beq_self_eq_true, d5i, d5j, or_self]
 cases bb <;> simp [-bind_some, h49]
structure Tal where
 h : Int
 r : Str
 n : Int
theorem a9R : ∀ a : Str, Op.bytesLess a a = false
 | [] => rfl
 | x :: a => by simp [-bind_some, Op.bytesLess, a9R a]
theorem b4P : ∀ {a b c : Str}, Op.bytesLess a b = true → Op.bytesLess b c = true → Op.bytesLess a c = true
 | _, [], _, h, _ => by cases ‹Str› <;> simp [-bind_some, Op.bytesLess] at h
 | _, _ :: _, [], _, h => by simp [-bind_some, Op.bytesLess] at h
 | [], _ :: _, _ :: _, _, _ => rfl
 | x :: a, y :: b, z :: c, h, k => by
  simp only [Op.bytesLess, Bool.or_eq_true, decide_eq_true_eq, Bool.and_eq_true, beq_iff_eq] at h k ⊢
  rcases h with h | ⟨rfl, h⟩
  ·rcases k with k | ⟨rfl, k⟩
   ·exact .inl (UInt8.lt_trans h k)
   ·exact .inl h
  ·rcases k with k | ⟨rfl, k⟩
   ·exact .inl k
   ·exact .inr ⟨rfl, b4P h k⟩
theorem a9S : ∀ {a b : Str}, Op.bytesLess a b = false → a ≠ b → Op.bytesLess b a = true
 | [], [], _, h => absurd rfl h
 | [], _ :: _, h, _ => by simp [-bind_some, Op.bytesLess] at h
 | _ :: _, [], _, _ => rfl
 | x :: a, y :: b, h, k => by
  simp only [Op.bytesLess, Bool.or_eq_false_iff, decide_eq_false_iff_not, Bool.and_eq_false_iff, beq_eq_false_iff_ne] at h
  simp only [Op.bytesLess, Bool.or_eq_true, decide_eq_true_eq, Bool.and_eq_true, beq_iff_eq]
  by_cases hxy : x = y
  ·subst hxy
   refine .inr ⟨rfl, a9S (h.2.resolve_left fun hh => hh rfl) fun hh => k (by rw [hh])⟩
  ·left
   have h1 := mt UInt8.lt_iff_toNat_lt.2 h.1
   have h2 : x.toNat ≠ y.toNat := fun hh => hxy (UInt8.toNat_inj.1 hh)
   exact UInt8.lt_iff_toNat_lt.2 (by omega)
def gr : List Ev → List Ev → Bool
 | [], _ => true
 | _ :: _, [] => false
 | x :: a, y :: b => if a5W x y = true then gr a b else gr (x :: a) b
def sm (f : Tal → Int) : List Tal → Int
 | [] => 0
 | t :: r => f t + sm f r
theorem c1M {hst fil fr : Int} {i : It} (hi : ItOK hst fil fr i) (h0 : 0 ≤ hst) (h9 : hst ≤ 999) (f0 : 0 ≤ fil) (f9 : fil ≤ 1000) (r0 : 0 ≤ fr) (r9 : fr ≤ 50000) : (i.r = [] ∧ EvGood i.e) ∨ SkGood i := by
 have c1 := a3Q _ _ _ hi.ch
 have hn3 := hi.n3
 have hn1 := hi.n1
 have pl : PlOK i.e := ⟨by rw [hi.host]; exact h0, by rw [hi.host]; exact h9, by rw [hi.file]; exact f0, by rw [hi.file]; omega, by rw [hi.fr]; omega, by rw [hi.fr]; omega, by omega⟩
 have ch : chain i.e.a2 i.e.ls i.e.a3 := by rw [hi.fr]; exact hi.ch
 by_cases hr : i.r = []
 ·left
  obtain ⟨e1, e2, e3, e4, e5, e6, e7, e8⟩ := hi.ev hr
  have hfl : i.e.fs.length ≤ 4 := by
   have := e7.1.length_le
   simpa using this
  exact ⟨hr, pl, e1, e2, e3, e4, hi.wt hr, hn1, by omega, ch, (show ∀ s ∈ lt98_5, s.length ≤ 32 by decide) _ e5, (show ∀ s ∈ lt98_6, s.length ≤ 32 by decide) _ e6, by omega, c4W e7.1, b9Z e7.1, fun p hp => by have := e7.2 p hp; omega⟩
 ·right
  obtain ⟨e1, e2, e3, e4, e5, e6, e7⟩ := hi.sk hr
  exact ⟨hr, (show ∀ s ∈ lt98_4, s.length ≤ 32 by decide) _ e1, pl, hn1, by omega, ch, e2, e3, e4, e5, e6, e7⟩
structure BIt (hst : Int) (i : It) : Prop where
 host : i.e.a0 = hst
 f5 : 5 ≤ i.e.a1
 f7 : i.e.a1 ≤ 7
 r0 : 0 ≤ i.e.a2
 r9 : i.e.a2 ≤ 50000
 ch : chain i.e.a2 i.e.ls i.e.a3
 n1 : 1 ≤ i.e.ls.length
 n6 : i.e.ls.length ≤ 6
 rule : i.r = [] ∨ i.r ∈ lt98_4
 fs : i.e.fs.length ≤ 4
 good : (i.r = [] ∧ EvGood i.e) ∨ SkGood i
theorem b4X {hst fil fr : Int} {i : It} (hi : ItOK hst fil fr i) (h0 : 0 ≤ hst) (h9 : hst ≤ 999) (f5 : 5 ≤ fil) (f7 : fil ≤ 7) (r0 : 0 ≤ fr) (r9 : fr ≤ 50000) : BIt hst i := by
 have hn3 := hi.n3
 refine ⟨hi.host, by rw [hi.file]; exact f5, by rw [hi.file]; exact f7, by rw [hi.fr]; exact r0, by rw [hi.fr]; exact r9, by rw [hi.fr]; exact hi.ch, hi.n1, by omega, ?_, ?_, c1M hi h0 h9 (by omega) (by omega) r0 r9⟩
 ·by_cases hr : i.r = []
  ·exact .inl hr
  ·exact .inr (hi.sk hr).1
 ·by_cases hr : i.r = []
  ·have := (hi.ev hr).2.2.2.2.2.2.1.1.length_le
   simpa using this
  ·rw [(hi.sk hr).2.2.2.2.2.1]; simp [-bind_some]
structure TogOf (a b j : It) : Prop where
 r : j.r = b.r
 a0 : j.e.a0 = b.e.a0
 a1 : j.e.a1 = b.e.a1
 a2 : j.e.a2 = a.e.a2
 a3 : j.e.a3 = b.e.a3
 a5 : j.e.a5 = b.e.a5
 a6 : j.e.a6 = b.e.a6
 s7 : j.e.s7 = b.e.s7
 s8 : j.e.s8 = b.e.s8
 ls : j.e.ls = if b.r = [] then a.e.ls ++ b.e.ls else (a.e.ls ++ b.e.ls).map a5c
 fs : j.e.fs = b.e.fs
theorem a9X : ∀ (ls rs : List Lin) (a b c : Int), chain a ls b → chain b rs c → chain a (ls ++ rs) c
 | [], rs, a, b, c, h, k => by simp only [chain] at h; subst h; exact k
 | x :: ls, rs, a, b, c, h, k => ⟨h.1, h.2.1, h.2.2.1, h.2.2.2.1, a9X ls rs _ b c h.2.2.2.2 k⟩
theorem c1n {hst fil fr fb : Int} {a b j : It} (ha : ItOK hst fil fr a) (hb : ItOK hst fil fb b) (hab : a.e.a3 = fb) (h0 : 0 ≤ hst) (h9 : hst ≤ 999) (f5 : 5 ≤ fil) (f7 : fil ≤ 7) (r0 : 0 ≤ fr) (r9 : fr ≤ 40000) (hj : TogOf a b j) : BIt hst j := by
 have na1 := ha.n1
 have na3 := ha.n3
 have nb1 := hb.n1
 have nb3 := hb.n3
 have ca := a3Q _ _ _ ha.ch
 have cb := a3Q _ _ _ hb.ch
 have hll : j.e.ls.length = a.e.ls.length + b.e.ls.length := by
  rw [hj.ls]; split <;> simp [-bind_some]
 have ch0 : chain a.e.a2 (a.e.ls ++ b.e.ls) b.e.a3 := by
  rw [ha.fr]
  exact a9X _ _ _ _ _ ha.ch (by rw [hab]; exact hb.ch)
 have ch : chain j.e.a2 j.e.ls j.e.a3 := by
  rw [hj.a2, hj.a3, hj.ls]
  split
  ·exact ch0
  ·exact a5e _ _ _ ch0
 have pl : PlOK j.e := ⟨by rw [hj.a0, hb.host]; exact h0, by rw [hj.a0, hb.host]; exact h9, by rw [hj.a1, hb.file]; omega, by rw [hj.a1, hb.file]; omega, by rw [hj.a2, ha.fr]; omega, by rw [hj.a2, hj.a3, ha.fr]; omega, by rw [hj.a3]; omega⟩
 have hbb := b4X hb h0 h9 f5 f7 (by omega) (by omega)
 refine ⟨by rw [hj.a0, hb.host], by rw [hj.a1, hb.file]; exact f5, by rw [hj.a1, hb.file]; exact f7, by rw [hj.a2, ha.fr]; exact r0, by rw [hj.a2, ha.fr]; omega, ch, by omega, by omega, by rw [hj.r]; exact hbb.rule, by rw [hj.fs]; exact hbb.fs, ?_⟩
 by_cases hr : b.r = []
 ·left
  obtain ⟨e1, e2, e3, e4, e5, e6, e7, e8⟩ := hb.ev hr
  have hfl := hbb.fs
  exact ⟨by rw [hj.r, hr], pl, by rw [hj.a5]; exact e1, by rw [hj.a5]; exact e2, by rw [hj.a6]; exact e3, by rw [hj.a6]; exact e4, by rw [hj.a6]; exact hb.wt hr, by omega, by omega, ch, by rw [hj.s7]; exact (show ∀ s ∈ lt98_5, s.length ≤ 32 by decide) _ e5, by rw [hj.s8]; exact (show ∀ s ∈ lt98_6, s.length ≤ 32 by decide) _ e6, by rw [hj.fs]; omega, by rw [hj.fs]; exact c4W e7.1, by rw [hj.fs]; exact b9Z e7.1, by rw [hj.fs]; exact fun p hp => by have := e7.2 p hp; omega⟩
 ·right
  obtain ⟨e1, e2, e3, e4, e5, e6, e7⟩ := hb.sk hr
  exact ⟨by rw [hj.r]; exact hr, by rw [hj.r]; exact (show ∀ s ∈ lt98_4, s.length ≤ 32 by decide) _ e1, pl, by omega, by omega, ch, by rw [hj.a5]; exact e2, by rw [hj.a6]; exact e3, by rw [hj.s7]; exact e4, by rw [hj.s8]; exact e5, by rw [hj.fs]; exact e6, by
   rw [hj.ls, if_neg hr]
   intro l hl
   obtain ⟨x, _, rfl⟩ := d5w.1 hl
   rfl⟩
theorem a5S (hst fil : Int) : ∀ (l : List It) (a b : Int), a9t hst fil a l b → ∀ (k : Nat) (i : It), l[k]? = some i → ∃ f, ItOK hst fil f i ∧ a ≤ f ∧ f ≤ a + 108 * k ∧ ∀ j, l[k + 1]? = some j → ItOK hst fil i.e.a3 j
 | [], _, _, _, k, i, hi => by simp at hi
 | x :: r, a, b, h, 0, i, hi => by
  simp at hi
  subst hi
  refine ⟨a, h.1, by omega, by omega, fun j hj => ?_⟩
  cases r with
  | nil => simp at hj
  | cons y r => simp at hj; subst hj; exact h.2.1
 | x :: r, a, b, h, k + 1, i, hi => by
  obtain ⟨f, h1, h2, h3, h4⟩ := a5S hst fil r _ b h.2 k i (by simpa using hi)
  have c := a3Q _ _ _ h.1.ch
  have := h.1.n3
  exact ⟨f, h1, by omega, by push_cast; omega, fun j hj => h4 j (by simpa using hj)⟩
def a6C (b : Bool) (l : List Lin) (k : Nat) : List Lin := if b = true then (l.take k).map a5c ++ l.drop k else l
theorem a6Y (b : Bool) (l : List Lin) (k : Nat) (hk : k ≤ l.length) : (a6C b l k).length = l.length := by
 unfold a6C
 split
 ·simp [-bind_some]; omega
 ·rfl
theorem d1v (a b : It) (h : Hp) (hla : a.e.ls.length ≤ 1000) (hlb : b.e.ls.length ≤ 1000) (hn : 1 ≤ a.e.ls.length) : ∃ j, R b3e [.agg (itr a), .agg (itr b)] h = some (.agg (itr j), h) ∧ TogOf a b j := by
 suffices Wp (R b3e [.agg (itr a), .agg (itr b)] h) (fun p => p.2 = h ∧ ∃ j, p.1 = .agg (itr j) ∧ TogOf a b j) by
  obtain ⟨⟨x, h'⟩, h1, rfl, j, rfl, h2⟩ := this
  exact ⟨j, h1, h2⟩
 rw [c8k]
 have q4 : ∀ i : It, a0a tab a0E 4 (.fptr (evr i.e)) = some (.fptr [i.e.ld, .int .i64 i.e.a5, .int .i64 i.e.a6, .str i.e.s7, .str i.e.s8, i.e.fd]) := fun i => id rfl
 have q2 : ∀ i : It, a0a tab a0E 2 (.fptr (evr i.e)) = some (.fptr [.int .i64 i.e.a2, .int .i64 i.e.a3, i.e.ld, .int .i64 i.e.a5, .int .i64 i.e.a6, .str i.e.s7, .str i.e.s8, i.e.fd]) := fun i => id rfl
 generalize hZ : ([.str [], .int .i64 0, .int .i64 0, .int .i64 0, .int .i64 0, .nils, .int .i64 0, .int .i64 0, .str [], .str [], .nils] : List D) = Z
 have hZl : Z.length = 11 := by subst hZ; rfl
 simp only [c3H, bs, a1b, b4H, hZ, d4X, c0m, q2, q4, ld3, a8p]
 have hl0 : (a0F h a0D 11 [Z]).length = h.length + 1 := by simp [-bind_some, a0F]
 have p8 : (a0F (a0F h a0D 11 [Z]) a0D 11 [Z])[h.length]? = some (.row a0D 11 [Z]) := by
  rw [a0U _ _ _ _ (by omega)]; exact a1q _ _ _ _
 have p9 : (a0F (a0F h a0D 11 [Z]) a0D 11 [Z])[h.length + 1]? = some (.row a0D 11 [Z]) := by
  rw [← hl0]; exact a1q _ _ _ _
 have hb : ∀ q, q < h.length → (a0F (a0F h a0D 11 [Z]) a0D 11 [Z])[q]? = h[q]? := fun q hq => by
  rw [a0U _ _ _ _ (by omega), a0U _ _ _ _ hq]
 have hgl : (a0F (a0F h a0D 11 [Z]) a0D 11 [Z]).length = h.length + 2 := by simp [-bind_some, a0F]
 rw [hl0]
 generalize a0F (a0F h a0D 11 [Z]) a0D 11 [Z] = g0 at p8 p9 hb hgl
 refine b1e p9 (by rfl) (by rfl) (by rw [hZl]; exact Nat.le_refl _) (by rfl) fun g1 k9 s1 => ?_
 replace k9 : g1[h.length + 1]? = some (.row a0D 11 [itr b]) := by
  rw [k9]; subst hZ; rfl
 simp only [a7p, a9i, a3t, Nat.zero_add, bs]
 refine b8s k9 (by rfl) (by rfl) (by simp [-bind_some, itr, evr]) (by rfl) fun g2 k9 s2 => ?_
 try simp only [bs]
 refine b8o k9 (by rfl) (by rfl) (by simp [-bind_some, itr, evr, spl, a0z]) (by rfl) fun g3 k9 s3 => ?_
 replace k9 : g3[h.length + 1]? = some (.row a0D 11 [[.str b.r, .int .i64 b.e.a0, .int .i64 b.e.a1, .int .i64 a.e.a2, .int .i64 b.e.a3, .nils, .int .i64 b.e.a5, .int .i64 b.e.a6, .str b.e.s7, .str b.e.s8, b.e.fd]]) := k9
 have s13q := (s1.trans s2).trans s3
 replace p8 := (s13q.2 h.length (by omega)).trans p8
 replace hb : ∀ q, q < h.length → g3[q]? = h[q]? := fun q hq => (s13q.2 q (by omega)).trans (hb q hq)
 have hgl3 : g3.length = h.length + 2 := by rw [s13q.1, hgl]
 clear s1 s2 s3 s13q p9 hgl
 try simp only [bs]
 refine b4E (n0 := h.length + 2) (by omega) (Own.nils _ _ _ _) (a3H _ a.e.hld) (by simp; omega) fun x1 g4 ow1 len1 bel1 _ _ => ?_
 rw [List.nil_append] at ow1
 try simp only [bs]
 refine b4E (n0 := h.length + 2) (by omega) ow1 (a3H _ b.e.hld) (by simp; omega) fun x2 g5 ow2 len2 bel2 _ _ => ?_
 rw [← d5e] at ow2
 have hbel : ∀ q, q < h.length + 2 → g5[q]? = g3[q]? := fun q hq => (bel2 q hq).trans (bel1 q hq)
 replace k9 := (hbel _ (by omega)).trans k9
 replace p8 := (hbel _ (by omega)).trans p8
 replace hb : ∀ q, q < h.length → g5[q]? = h[q]? := fun q hq => (hbel q (by omega)).trans (hb q hq)
 have hgl5 : h.length + 2 ≤ g5.length := by omega
 clear hbel bel1 bel2 ow1 len1 len2
 generalize hL : a.e.ls ++ b.e.ls = L at ow2
 have hLl : L.length = a.e.ls.length + b.e.ls.length := by rw [← hL]; simp [-bind_some]
 obtain ⟨ob, hob, rfl, hgo⟩ := a4k ow2 (i := 0) (by simp; omega)
 simp only [d5d] at *
 refine Wp.chk trivial ?_
 try simp only [bs, d4X]
 generalize hB : (!(b.r == ([] : Str))) = B
 refine Wp.loop (fun n ds g => ∃ (k : Nat) (u v y : D), ds = [.int .i64 k, u, v] ∧ n + k = L.length ∧ h.length + 2 ≤ g.length ∧ (∀ q, q < h.length → g[q]? = h[q]?) ∧ g[h.length]? = some (.row a0D 11 [Z]) ∧
   g[h.length + 1]? = some (.row a0D 11 [[.str b.r, .int .i64 b.e.a0, .int .i64 b.e.a1, .int .i64 a.e.a2, .int .i64 b.e.a3, y, .int .i64 b.e.a5, .int .i64 b.e.a6, .str b.e.s7, .str b.e.s8, b.e.fd]]) ∧
   g[ob]? = some (.row a1A 3 ((a6C B L k).map a1p)) ∧ Own g (h.length + 2) a1A 3 (((a6C B L k).take k).map a1p) y ∧ ¬ y.inOb ob)
  (fun r => r.1 = .ext 0 ∧ ∃ y, h.length + 2 ≤ r.2.2.length ∧ (∀ q, q < h.length → r.2.2[q]? = h[q]?) ∧ r.2.2[h.length]? = some (.row a0D 11 [Z]) ∧
   r.2.2[h.length + 1]? = some (.row a0D 11 [[.str b.r, .int .i64 b.e.a0, .int .i64 b.e.a1, .int .i64 a.e.a2, .int .i64 b.e.a3, y, .int .i64 b.e.a5, .int .i64 b.e.a6, .str b.e.s7, .str b.e.s8, b.e.fd]]) ∧
   Own r.2.2 (h.length + 2) a1A 3 ((a6C B L L.length).map a1p) y) L.length
  ⟨0, _, _, .nils, rfl, rfl, hgl5, hb, p8, k9, by rw [hgo]; unfold a6C; split <;> simp [-bind_some], by simpa using Own.nils _ _ _ _, by rintro ⟨_, _, hh⟩; cases hh⟩ ?_ ?_
 ·rintro n ds g ⟨k, u, v, y, rfl, hk, hgl, hb, p8, k9, ho, ow, hny⟩
  have hlen : (a6C B L k).length = L.length := a6Y _ _ _ (by omega)
  simp only [b2o, a0f, a0n, bs, d4X, c5t, a0j, c1J, c1K, a1U, hB]
  refine Wp.dif ?_ ?_
  ·intro h0
   have h0 : k < L.length := dl_ h0
   have hkl : (0 : Int) ≤ (k : Int) ∧ (k : Int) < (L.length : Int) := by omega
   have hw := wi_ k (by omega)
   refine Wp.join (P := fun r => ∃ g', r = (.nrm, [], g') ∧ h.length + 2 ≤ g'.length ∧ (∀ q, q < h.length → g'[q]? = h[q]?) ∧ g'[h.length]? = some (.row a0D 11 [Z]) ∧
    g'[h.length + 1]? = some (.row a0D 11 [[.str b.r, .int .i64 b.e.a0, .int .i64 b.e.a1, .int .i64 a.e.a2, .int .i64 b.e.a3, y, .int .i64 b.e.a5, .int .i64 b.e.a6, .str b.e.s7, .str b.e.s8, b.e.fd]]) ∧
    g'[ob]? = some (.row a1A 3 ((a6C B L (k + 1)).map a1p)) ∧ Own g' (h.length + 2) a1A 3 (((a6C B L k).take k).map a1p) y) ?_ ?_ ?_
   ·intro hbt
    subst hbt
    have hT : ∀ k, a6C true L k = (L.take k).map a5c ++ L.drop k := fun k => rfl
    simp only [b9l, hkl, and_self, if_true, bs, a2M, Nat.zero_add, d5h]
    refine b9M ho (by rw [hT]; exact b0E L k h0) (by rfl) (by simp [-bind_some, a1p]) (by rfl) fun g' q s => ?_
    have hset : ((a6C true L k).map a1p).set k (spl (a1p L[k]) 2 (a0z (.str []))) = (a6C true L (k + 1)).map a1p := by
     rw [hT, hT]; exact b0Z L k h0
    rw [hset] at q
    exact .some ⟨g', rfl, by have := s.1; omega, fun q hq => (s.2 q (by omega)).trans (hb q hq), (s.2 _ (by omega)).trans p8, (s.2 _ (by omega)).trans k9, q, ow.keep fun q hq hin => s.2 q fun hh => hny (hh ▸ hin)⟩
   ·intro hbf
    subst hbf
    exact .some ⟨g, rfl, hgl, hb, p8, k9, ho, ow⟩
   rintro _ ⟨g', rfl, hgl, hb, p8, k9, ho, ow⟩
   have hx : (a6C B L (k + 1))[k]? = some ((a6C B L (k + 1))[k]'(by rw [a6Y _ _ _ (by omega)]; omega)) := d5o _
   generalize (a6C B L (k + 1))[k]'(by rw [a6Y _ _ _ (by omega)]; omega) = x at hx
   have hxr : ((a6C B L (k + 1)).map a1p)[k]? = some (a1p x) := by rw [d5l, hx]; rfl
   have hld : a0c tab g' a1A (.ptr ob k 0) = some (.agg (a1p x)) := by
    rw [c5r, a0V ho, hxr]; rfl
   have hbs : a1h tab a1u 1 [0] [.agg (a1p x)] = some (.sl 3 true [a1p x]) := id rfl
   simp only [a0o, a7p, a3t, Nat.zero_add, b6C, a0V k9, d5a, bs, List.drop_succ_cons, List.drop_zero, List.head?_cons, b9l, hkl, and_self, if_true, d5h, hld, hbs]
   have htl : ((a6C B L k).take k).length ≤ 2000 := by simp; omega
   refine b4E (n0 := h.length + 2) hgl ow (a1g _ _ _ _) (by simp at htl ⊢; omega) fun y' g'' ow' len' bel' keep' fre' => ?_
   try simp only [bs]
   have oc := a0T (a2a ow')
   refine b8o ((bel' (h.length + 1) (by omega)).trans k9) (by rfl) (by rw [oc.1]; rfl) (by simp) oc.2 fun g3 q3 t3 => ?_
   rw [oc.1] at q3
   have holt := (d5p.1 ho).1
   have ho2 : h.length + 2 ≤ ob := hob
   have htk : ((a6C B L k).take k).map a1p ++ [a1p x] = ((a6C B L (k + 1)).take (k + 1)).map a1p := by
    have e1 : (a6C B L k).take k = (a6C B L (k + 1)).take k := by
     unfold a6C
     split
     ·rw [List.take_append_of_le_length (by simp; omega), List.take_append_of_le_length (by simp; omega), ← List.map_take, ← List.map_take, List.take_take, List.take_take]
      congr 2; omega
     ·rfl
    rw [e1, d5k, hx]
    simp [-bind_some]
   rw [htk] at ow'
   simp only [bs, a0u, hw]
   refine .some (.inl ⟨rfl, n - 1, by omega, k + 1, _, _, y', rfl, by omega, by have := t3.1; show h.length + 2 ≤ g3.length; omega, fun q hq => (t3.2 q (by omega)).trans ((bel' q (by omega)).trans (hb q hq)), (t3.2 _ (by omega)).trans ((bel' _ (by omega)).trans p8), q3, (t3.2 _ (by omega)).trans ((keep' ob holt hny).trans ho), ow'.keep fun q hq _ => t3.2 q (by omega), fun hin => ?_⟩)
   rcases fre' ob hin with hh | hh
   ·exact hny hh
   ·omega
  ·intro h0
   have h0 : k = L.length := by
    have : ¬ (k : Int) < L.length := by simpa using h0
    omega
   subst h0
   refine .some (.inr ⟨by simp, rfl, y, hgl, hb, p8, k9, ?_⟩)
   rw [List.take_of_length_le (by omega)] at ow
   exact ow
 ·rintro ⟨ex, ds, g⟩ ⟨q1, y, hgl, hb, p8, k9, ow⟩
  simp only at q1 hgl hb p8 k9 ow
  subst q1
  simp only [a0l, a0o, bs]
  have hlen : (a6C B L L.length).length = L.length := a6Y _ _ _ (Nat.le_refl _)
  have hsl := a2C (n0 := h.length) (n := 2) ow (by omega) (fun a _ => a3Y _ g _ a)
  have hcs : ([.str b.r, .int .i64 b.e.a0, .int .i64 b.e.a1, .int .i64 a.e.a2, .int .i64 b.e.a3, y, .int .i64 b.e.a5, .int .i64 b.e.a6, .str b.e.s7, .str b.e.s8, b.e.fd] : List D).length = 11 := rfl
  simp only [b0K k9 hcs, bs]
  have hok : (D.agg [.str b.r, .int .i64 b.e.a0, .int .i64 b.e.a1, .int .i64 a.e.a2, .int .i64 b.e.a3, y, .int .i64 b.e.a5, .int .i64 b.e.a6, .str b.e.s7, .str b.e.s8, b.e.fd]).okv = true := by
   have h1 := a2a ow
   have h2 := a1z b.e.hfd
   generalize b.e.fd = fd at h2
   cases y <;> first | (cases fd <;> first | rfl | (simp [-bind_some, D.one] at h2)) | (simp [-bind_some, D.one] at h1)
  refine b1e p8 (by rfl) (by rfl) (by rw [hZl]; exact Nat.le_refl _) hok fun g2 q8 t2 => ?_
  replace q8 : g2[h.length]? = some (.row a0D 11 [[.str b.r, .int .i64 b.e.a0, .int .i64 b.e.a1, .int .i64 a.e.a2, .int .i64 b.e.a3, y, .int .i64 b.e.a5, .int .i64 b.e.a6, .str b.e.s7, .str b.e.s8, b.e.fd]]) := by
   rw [q8]; subst hZ; rfl
  simp only [b0K q8 hcs, bs, a0g]
  have ow2 := ow.keep (h' := g2) fun q hq _ => t2.2 q (by omega)
  have hsl := a2C (n0 := h.length) (n := 2) ow2 (by omega) (fun a _ => a3Y _ g2 _ a)
  refine ⟨(.agg (itr ⟨b.r, ⟨b.e.a0, b.e.a1, a.e.a2, b.e.a3, a6C B L L.length, frz h.length g2 3 y, b.e.a5, b.e.a6, b.e.s7, b.e.s8, b.e.fs, b.e.fd, b.e.hfd, b.e.hl, hsl, by omega⟩⟩), h), a1i ?_ (b0G _ _) (by have := t2.1; omega) (fun q hq => (t2.2 q (by omega)).trans (hb q hq)), rfl, _, rfl, ⟨rfl, rfl, rfl, rfl, rfl, rfl, rfl, rfl, rfl, ?_, rfl⟩⟩
  ·have hf := a3n (n0 := h.length) (h := g2) (n := 2) b.e.hfd (fun a _ => a6i _ g2 _ a)
   simp only [c1D, d5f, d5g, b6i, b6l, hf]
   rfl
  ·show a6C B L L.length = _
   by_cases hr : b.r = []
   ·rw [if_pos hr]
    have : B = false := by rw [← hB, hr]; rfl
    subst this
    exact hL.symm
   ·rw [if_neg hr]
    have : B = true := by rw [← hB]; simp [-bind_some, hr]
    subst this
    rw [hL]
    simp [-bind_some, a6C]
def a8W (host : Int) (p : List It × D × Int) : List D := [.int .i64 host, .int .i64 p.2.2, p.2.1]
def atR (n : Nat) : List D := [.int .i64 (n : Int)]
structure BtI (h : Hp) (o : Nat) (host : Int) (ps : List (List It × D)) (qa : Nat) (g : Hp) (x : D) (bt : List (List It × D × Int)) (ats : List Nat) : Prop where
 len : h.length ≤ g.length
 gr : ∀ q, q < h.length → q ≠ o → g[q]? = h[q]?
 cd : CD g o
 qa0 : h.length ≤ qa
 at_ : g[qa]? = some (.row ty3 1 (ats.map atR))
 al : ats.length = ps.length
 ab : ∀ (f : Nat) (n : Nat) p, ats[f]? = some n → ps[f]? = some p → n ≤ p.1.length
 out : Own g h.length a0q 3 (bt.map (a8W host)) x
 its : ∀ p ∈ bt, Own g h.length a0D 11 (p.1.map itr) p.2.1 ∧ p.1.length ≤ 3 ∧ (∀ i ∈ p.1, BIt host i) ∧ 0 ≤ p.2.2 ∧ p.2.2 ≤ 12
structure BtL (h : Hp) (o : Nat) (qa pb : Nat) (x : D) (bt : List (List It × D × Int)) : Prop where
 hh : h.length ≤ pb
 ho : o < h.length
 hqa : qa < pb
 hx : ∀ q, x.inOb q → q < pb
 hbs : ∀ p ∈ bt, ∀ q, p.2.1.inOb q → q < pb
theorem BtI.keep {h : Hp} {o : Nat} {host : Int} {ps : List (List It × D)} {qa : Nat} {g g' : Hp} {x : D} {bt : List (List It × D × Int)} {ats : List Nat} {pb : Nat} (B : BtI h o host ps qa g x bt ats) (L : BtL h o qa pb x bt) (hcd : CD g' o) (hlen : g.length ≤ g'.length) (hk : ∀ q, q < pb → q ≠ o → g'[q]? = g[q]?) : BtI h o host ps qa g' x bt ats := by
 have h1 := L.hh
 have h2 := L.ho
 have h3 := L.hqa
 have h4 := B.qa0
 refine ⟨Nat.le_trans B.len hlen, fun q hq hn => (hk q (by omega) hn).trans (B.gr q hq hn), hcd, B.qa0, (hk qa h3 (by omega)).trans B.at_, B.al, B.ab, B.out.keep fun q hq hin => hk q (L.hx q hin) (by omega), fun p hp => ⟨(B.its p hp).1.keep fun q hq hin => hk q (L.hbs p hp q hin) (by omega), (B.its p hp).2⟩⟩
structure BnI (h : Hp) (o : Nat) (host : Int) (ps : List (List It × D)) (qa : Nat) (x : D) (bt : List (List It × D × Int)) (pb : Nat) (nu : Int) (g : Hp) (ats : List Nat) (its : List It) (y : D) : Prop where
 B : BtI h o host ps qa g x bt ats
 pg : pb < g.length
 pr : g[pb]? = some (.row a0q 3 [[.int .i64 host, .int .i64 nu, y]])
 ow : Own g (pb + 1) a0D 11 (its.map itr) y
 ok : ∀ i ∈ its, BIt host i
section
variable {h : Hp} {o : Nat} {host : Int} {ps : List (List It × D)} {qa : Nat} {x : D} {bt : List (List It × D × Int)} {pb : Nat} {nu : Int}
theorem BnI.keep {g g' : Hp} {ats : List Nat} {its : List It} {y : D} (b : BnI h o host ps qa x bt pb nu g ats its y) (L : BtL h o qa pb x bt) (hcd : CD g' o) (hlen : g.length ≤ g'.length) (hk : ∀ q, q ≤ pb → q ≠ o → g'[q]? = g[q]?) (hy : ∀ q, y.inOb q → g'[q]? = g[q]?) : BnI h o host ps qa x bt pb nu g' ats its y := by
 have := L.hh
 have := L.ho
 exact ⟨b.B.keep L hcd hlen fun q hq hn => hk q (by omega) hn, by have := b.pg; omega, (hk pb (Nat.le_refl _) (by omega)).trans b.pr, b.ow.keep fun q _ hin => hy q hin, b.ok⟩
theorem BnI.next {g g' : Hp} {ats : List Nat} {its : List It} {y : D} (b : BnI h o host ps qa x bt pb nu g ats its y) (L : BtL h o qa pb x bt) (hcd : CD g' o) (hs : Same o g g') : BnI h o host ps qa x bt pb nu g' ats its y :=
 b.keep L hcd (Nat.le_of_eq hs.1.symm) (fun q _ hn => hs.2 q hn) fun q hin => hs.2 q (by have := (b.ow.lt hin).1; have := L.hh; have := L.ho; omega)
theorem BnI.put {g g' : Hp} {ats : List Nat} {its : List It} {y : D} {z : Nat} (b : BnI h o host ps qa x bt pb nu g ats its y) (L : BtL h o qa pb x bt) (hz : pb < z) (hzy : ¬ y.inOb z) (hs : Same z g g') : BnI h o host ps qa x bt pb nu g' ats its y :=
 b.keep L (b.B.cd.keep (hs.2 o (by have := L.hh; have := L.ho; omega))) (Nat.le_of_eq hs.1.symm) (fun q hq _ => hs.2 q (by omega)) fun q hin => hs.2 q fun hh => hzy (hh ▸ hin)
theorem BnI.new {g g' : Hp} {ats : List Nat} {its : List It} {y : D} (b : BnI h o host ps qa x bt pb nu g ats its y) (L : BtL h o qa pb x bt) (hl : g.length ≤ g'.length) (hk : ∀ q, q < g.length → g'[q]? = g[q]?) : BnI h o host ps qa x bt pb nu g' ats its y := by
 have h1 := b.pg
 have h2 := L.hh
 have h3 := L.ho
 exact b.keep L (b.B.cd.keep (hk o (by omega))) hl (fun q hq _ => hk q (by omega)) fun q hin => hk q (b.ow.lt hin).2
theorem b9k {g : Hp} {ats : List Nat} {n f a : Nat} (hg : g[qa]? = some (.row ty3 1 (ats.map atR))) (hn : ats.length = n) (hf : ats[f]? = some a) : a0b tab b1i (.msl 1 qa 0 n) (.int .i64 (f : Int)) = some (.ptr qa f 0) ∧ a0c tab g ty3 (.ptr qa f 0) = some (.int .i64 a) := by
 have := (d5p.1 hf).1
 have hh : (0 : Int) ≤ (f : Int) ∧ (f : Int) < (n : Int) := by omega
 constructor
 ·rw [d0L, if_pos hh]; simp [-bind_some]
 ·rw [b0L, a0V hg, d5l, hf]; rfl
end
theorem c5p {g : Hp} {z : Nat} {i : It} (hz : g[z]? = some (.row a0D 11 [itr i])) : a0c tab g a0D (.ptr z 0 0) = some (.agg (itr i)) := b0K hz rfl
theorem b6v (i : It) : (D.agg (itr i)).okv = true := by
 have h1 := a1z i.e.hld
 have h2 := a1z i.e.hfd
 have h3 : (D.agg (itr i)) = .agg [.str i.r, .int .i64 i.e.a0, .int .i64 i.e.a1, .int .i64 i.e.a2, .int .i64 i.e.a3, i.e.ld, .int .i64 i.e.a5, .int .i64 i.e.a6, .str i.e.s7, .str i.e.s8, i.e.fd] := rfl
 rw [h3]
 generalize i.e.ld = a at h1
 generalize i.e.fd = b at h2
 cases a <;> first | (cases b <;> first | rfl | (simp [-bind_some, D.one] at h2)) | (simp [-bind_some, D.one] at h1)
theorem b7s {g : Hp} {z : Nat} {row : List D} {i : It} (hz : g[z]? = some (.row a0D 11 [row])) (hr : row.length = 11) {β : Type} {f : Hp → Option β} {Q : β → Prop}
  (k : ∀ g', g'[z]? = some (.row a0D 11 [itr i]) → Same z g g' → Wp (f g') Q) : Wp ((a0h tab g a0D (.ptr z 0 0) (.agg (itr i))).bind f) Q := by
 refine b1e hz (by rfl) (by rfl) (by rw [hr]; exact Nat.le_refl _) (b6v i) fun g' q s => k g' ?_ s
 have : spl row 0 (a0z (.agg (itr i))) = itr i := by
  show row.take 0 ++ itr i ++ row.drop (0 + (itr i).length) = itr i
  rw [List.drop_of_length_le (by rw [hr]; exact Nat.le_refl _)]
  simp [-bind_some]
 rw [q, this]
 rfl
theorem b9Y {h : Hp} {o : Nat} {host : Int} {ps : List (List It × D)} {qa : Nat} {x : D} {bt : List (List It × D × Int)} {pb : Nat} {nu : Int} {g : Hp} {ats : List Nat} {its : List It} {y : D} {i : It} {z : Nat} {β : Type} {f : Hp → Option β} {Q : β → Prop}
  (b : BnI h o host ps qa x bt pb nu g ats its y) (L : BtL h o qa pb x bt) (hl : its.length ≤ 1000) (hz : g[z]? = some (.row a0D 11 [itr i])) (hi : BIt host i)
  (k : ∀ g' y', BnI h o host ps qa x bt pb nu g' ats (its ++ [i]) y' → Wp (f g') Q) :
  Wp ((a0a tab a0q 2 (.ptr pb 0 0)).bind fun t => (a0c tab g a0K t).bind fun t103 => (a0c tab g a0D (.ptr z 0 0)).bind fun t104 => (a1h tab a0K 1 [0] [t104]).bind fun t105 => (a0C tab g a0K a0K t103 t105).bind fun p => (a0a tab a0q 2 (.ptr pb 0 0)).bind fun t107 => (a0h tab p.2 a0K t107 p.1).bind f) Q := by
 have h1 := b.pg
 have h2 := L.hh
 have h3 := L.ho
 simp only [a7o, b6B, a0V b.pr, d5a, bs, List.drop_succ_cons, List.drop_zero, List.head?_cons, Nat.zero_add, c5p hz, d2p]
 refine b3U (n0 := pb + 1) h1 b.ow (a1g _ _ _ _) (by simp; omega) fun y' g' ow len bel keep fre => ?_
 simp only [bs]
 have oc := a0T (a2a ow)
 refine b8n ((bel pb (by omega)).trans b.pr) (by rfl) (by rw [oc.1]; rfl) (by simp) oc.2 fun g2 q2 s2 => ?_
 rw [oc.1] at q2
 have h4 := s2.1
 refine k g2 y' ⟨b.B.keep L (b.B.cd.keep ((s2.2 o (by omega)).trans (bel o (by omega)))) (by omega) (fun q hq _ => (s2.2 q (by omega)).trans (bel q (by omega))), by omega, q2, ?_, fun j hj => ?_⟩
 ·rw [d5e]
  exact ow.keep fun q hq _ => s2.2 q (by omega)
 ·rcases d5v.1 hj with hj | hj
  ·exact b.ok j hj
  ·simp at hj; subst hj; exact hi
theorem c7g {h : Hp} {o : Nat} {host most : Int} {ps : List (List It × D)} {qa : Nat} {x dps : D} {bt : List (List It × D × Int)} {pb : Nat} {nu : Int} {g : Hp} {ats : List Nat} {its : List It} {y : D} (L : BtL h o qa pb x bt)
  (hps : SlOf 1 (fun p : List It × D => [p.2]) ps dps) (hf : FilesOK host most (SlOf 11 itr) ps) (hn1 : 1 ≤ ps.length) (hn3 : ps.length ≤ 3) (hm : most ≤ 100) (h0 : 0 ≤ host) (h9 : host ≤ 999)
  (b : BnI h o host ps qa x bt pb nu g ats its y) (hl : its.length ≤ 100) (p11 : D × Hp) (hp : p11.1 = .ptr pb 0 0) (k : Nat) (hk : 0 < k) (hk2 : k ≤ 100) (a1 a2 a3 a4 a5 a6 a7 a8 a9 : D) :
  Wp (a6I (.ptr o 0 0) dps (.msl 1 qa 0 ps.length) p11 [.int .i64 k, a1, a2, a3, a4, a5, a6, a7, a8, a9] g) (fun r => ∃ g' ats' its' y' c1 c2 c3 c4 c5 c6 c7 c8 c9, r = (.nrm, [.int .i64 ((k - 1 : Nat) : Int), c1, c2, c3, c4, c5, c6, c7, c8, c9], g') ∧ BnI h o host ps qa x bt pb nu g' ats' its' y' ∧ its'.length ≤ its.length + 1) := by
 have hk' : (0 : Int) < (k : Int) := by omega
 have hw : IntKind.wrap .i64 ((k : Int) - 1) = ((k - 1 : Nat) : Int) := by
  rw [wrap_i64 (by omega) (by omega)]; omega
 simp only [a6I, a0f, a0n, bs, d4X, a0v, hk', decide_true, a0d, if_true, b6F hps, hp]
 obtain ⟨v, g1, e1, c1, s1, v0, v1⟩ := a2h b.B.cd ps.length (by omega) (by omega)
 refine Wp.step e1 ?_
 have b1 := b.next L c1 s1
 obtain ⟨f, rfl⟩ := Int.eq_ofNat_of_zero_le v0
 have hfl : f < ps.length := by omega
 obtain ⟨a, ha⟩ : ∃ a, ats[f]? = some a := ⟨_, d5o (by rw [b.B.al]; exact hfl)⟩
 obtain ⟨p, hpf⟩ := gx_ hfl
 obtain ⟨hpd, hpl, po, hit⟩ := hf f p hpf
 have hab := b.B.ab f a p ha hpf
 have ix := b9k (qa := qa) (n := ps.length) b1.B.at_ b1.B.al ha
 have hmem : a0b tab a4p dps (.int .i64 (f : Int)) = some (.fptr [p.2]) := by rw [c5g hps]; simp [-bind_some, hpf]
 simp only [ix.1, ix.2, hmem, a6j, a4y hpd, bs, a2U]
 refine Wp.join (P := fun r => ∃ g' ats' its' y' c1 c2 c3 c4 c5 c6 c7 c8, r = (.nrm, [c1, c2, c3, c4, c5, c6, c7, c8], g') ∧ BnI h o host ps qa x bt pb nu g' ats' its' y' ∧ its'.length ≤ its.length + 1) ?_ ?_ ?_
 ·intro _
  exact .some ⟨g1, ats, its, y, _, _, _, _, _, _, _, _, rfl, b1, by omega⟩
 ·intro hlt
  have hlt : a < p.1.length := by
   have : ¬ (p.1.length : Int) ≤ (a : Int) := by simpa using hlt
   omega
  obtain ⟨i, hi⟩ := gx_ hlt
  obtain ⟨fr, hio, hfr0, hfr1, _⟩ := a5S host _ p.1 0 po hit a i hi
  have hBi : BIt host i := b4X hio h0 h9 (by omega) (by omega) hfr0 (by omega)
  have hii : a0b tab a0K p.2 (.int .i64 (a : Int)) = some (.fptr (itr i)) := by rw [a7z hpd]; simp [-bind_some, hi]
  simp only [hii, b4H, bs]
  generalize hZ : ([.str [], .int .i64 0, .int .i64 0, .int .i64 0, .int .i64 0, .nils, .int .i64 0, .int .i64 0, .str [], .str [], .nils] : List D) = Z
  have hZl : Z.length = 11 := by subst hZ; rfl
  have hold : ∀ q, q < g1.length → (a0F g1 a0D 11 [Z])[q]? = g1[q]? := fun q hq => a0U _ _ _ _ hq
  have hzz : (a0F g1 a0D 11 [Z])[g1.length]? = some (.row a0D 11 [Z]) := a1q _ _ _ _
  have hzl : (a0F g1 a0D 11 [Z]).length = g1.length + 1 := by simp [-bind_some, a0F]
  have b2 := b1.new L (g' := a0F g1 a0D 11 [Z]) (by omega) hold
  have hzy : ¬ y.inOb g1.length := fun hh => by have := (b1.ow.lt hh).2; omega
  have hzp : pb < g1.length := b1.pg
  generalize a0F g1 a0D 11 [Z] = g2 at hzz hzl b2
  generalize hzg : List.length g1 = z at hzz hzl hzy hzp
  clear hold
  have ix2 := b9k (qa := qa) (n := ps.length) b2.B.at_ b2.B.al ha
  simp only [ix2.2]
  refine Wp.chk trivial (Wp.chk trivial (Wp.chk trivial ?_))
  refine b7s hzz hZl fun g3 hz3 s3 => ?_
  have b3 := b2.put L hzp hzy s3
  have hl3 : g3.length = z + 1 := by rw [s3.1, hzl]
  try simp only [bs]
  obtain ⟨u, g4, e4, c4, s4, u0, u1⟩ := a2h b3.B.cd 8 (by omega) (by omega)
  refine Wp.step e4 ?_
  have b4 := b3.next L c4 s4
  have hoz : z ≠ o := by have := L.hh; have := L.ho; omega
  have hz4 := (s4.2 z hoz).trans hz3
  have hl4 : g4.length = z + 1 := by rw [s4.1, hl3]
  have ix4 := b9k (qa := qa) (n := ps.length) b4.B.at_ b4.B.al ha
  simp only [a0R, bs]
  refine Wp.join (P := fun r => (∃ g' i' c1 c2, r = (.nrm, [c1, c2], g') ∧ BnI h o host ps qa x bt pb nu g' ats its y ∧ g'[z]? = some (.row a0D 11 [itr i']) ∧ BIt host i' ∧ g'.length = z + 1) ∨ (∃ g' i' y' c1 c2, r = (.ext 3, [c1, c2], g') ∧ BnI h o host ps qa x bt pb nu g' ats (its ++ [i']) y')) ?_ ?_ ?_
  ·intro _
   simp only [ix4.1, ix4.2, bs, a0v]
   refine Wp.join (P := fun r => ∃ g' i', r = (.nrm, [], g') ∧ BnI h o host ps qa x bt pb nu g' ats its y ∧ g'[z]? = some (.row a0D 11 [itr i']) ∧ BIt host i' ∧ g'.length = z + 1) ?_ ?_ ?_
   ·intro ha0
    have ha0 : 0 < a := by
     have : (0 : Int) < (a : Int) := by simpa using ha0
     omega
    have hw2 : IntKind.wrap .i64 ((a : Int) - 1) = ((a - 1 : Nat) : Int) := by
     rw [wrap_i64 (by omega) (by omega)]; omega
    obtain ⟨ib, hib⟩ : ∃ i, p.1[a - 1]? = some i := ⟨_, d5o (by omega)⟩
    obtain ⟨fb, hbo, hfb0, hfb1, hnx⟩ := a5S host _ p.1 0 po hit (a - 1) ib hib
    have hio2 := hnx i (by rw [show a - 1 + 1 = a by omega]; exact hi)
    have hib2 : a0b tab a0K p.2 (.int .i64 ((a - 1 : Nat) : Int)) = some (.fptr (itr ib)) := by rw [a7z hpd]; simp [-bind_some, hib]
    have n1 := hbo.n1
    have n3 := hbo.n3
    have n5 := hio2.n3
    obtain ⟨j, ej, hj⟩ := d1v ib i g4 (by omega) (by omega) n1
    have hBj : BIt host j := c1n hbo hio2 rfl h0 h9 (by omega) (by omega) hfb0 (by omega) hj
    simp only [a0B, hw2, bs, hib2, b4H, c5p hz4, hmem, a6j]
    refine Wp.step ej ?_
    simp only [bs]
    refine b7s hz4 rfl fun g5 hz5 s5 => ?_
    try simp only [bs]
    exact .some ⟨g5, j, rfl, b4.put L hzp hzy s5, hz5, hBj, by rw [s5.1, hl4]⟩
   ·intro _
    exact .some ⟨g4, i, rfl, b4, hz4, hBi, hl4⟩
   rintro _ ⟨g', i', rfl, b', hz', hB', hl'⟩
   simp only [bs]
   exact .some (.inl ⟨g', i', _, _, rfl, b', hz', hB', hl'⟩)
  ·intro _
   refine Wp.dif ?_ ?_
   ·intro _
    have hw2 := wi_ a (by omega)
    have hw3 : IntKind.wrap .i64 ((p.1.length : Int) - 1) = ((p.1.length - 1 : Nat) : Int) := by
     rw [wrap_i64 (by omega) (by omega)]; omega
    obtain ⟨c, hmc, hc⟩ : ∃ c : Nat, b8p (.int .i64 ((a + 1 : Nat) : Int)) (.int .i64 ((p.1.length - 1 : Nat) : Int)) = some (.int .i64 c) ∧ c < p.1.length := by
     rw [b2O]
     split
     ·exact ⟨a + 1, rfl, by omega⟩
     ·exact ⟨p.1.length - 1, rfl, by omega⟩
    obtain ⟨ib, hib⟩ : ∃ i, p.1[c]? = some i := ⟨_, d5o hc⟩
    obtain ⟨fb, hbo, hfb0, hfb1, hnx⟩ := a5S host _ p.1 0 po hit c ib hib
    have hBb : BIt host ib := b4X hbo h0 h9 (by omega) (by omega) hfb0 (by omega)
    have hib2 : a0b tab a0K p.2 (.int .i64 (c : Int)) = some (.fptr (itr ib)) := by rw [a7z hpd]; simp [-bind_some, hib]
    simp only [ix4.1, ix4.2, bs, hmem, a6j, a4y hpd, a0u, a0B, hw2, hw3, hmc, hib2, b4H]
    refine b7s hz4 rfl fun g5 hz5 s5 => ?_
    have b5 := b4.put L hzp hzy s5
    try simp only [bs]
    refine b9Y b5 L (by omega) hz5 hBb fun g6 y6 b6 => ?_
    try simp only [bs]
    exact .some (.inr ⟨g6, ib, y6, _, _, rfl, b6⟩)
   ·intro _
    exact .some (.inl ⟨g4, i, _, _, rfl, b4, hz4, hBi, hl4⟩)
  rintro _ (⟨g', i', d1, d2, rfl, b', hz', hB', hl'⟩ | ⟨g', i', y', d1, d2, rfl, b'⟩)
  ·simp only [a1t, a0o, a0f, a0n, d4X, bs]
   refine b9Y b' L (by omega) hz' hB' fun g6 y6 b6 => ?_
   try simp only [bs]
   obtain ⟨w, g7, e7, c7, s7, w0, w1⟩ := a2h b6.B.cd 4 (by omega) (by omega)
   refine Wp.step e7 ?_
   have b7 := b6.next L c7 s7
   simp only [a0v, bs]
   refine Wp.join (P := fun r => ∃ g' ats', r = (.nrm, [], g') ∧ BnI h o host ps qa x bt pb nu g' ats' (its ++ [i']) y6) ?_ ?_ ?_
   ·intro _
    have ix7 := b9k (qa := qa) (n := ps.length) b7.B.at_ b7.B.al ha
    have hw2 := wi_ a (by omega)
    simp only [ix7.1, ix7.2, bs, a0u, hw2, d4X]
    have hrow : (ats.map atR)[f]? = some (atR a) := by rw [d5l, ha]; rfl
    refine b8s b7.B.at_ hrow (by rfl) (by simp [-bind_some, atR]) (by rfl) fun g8 q8 s8 => ?_
    have hset : (ats.map atR).set f (spl (atR a) 0 (a0z (.int .i64 ((a + 1 : Nat) : Int)))) = (ats.set f (a + 1)).map atR := by
     rw [List.map_set]; rfl
    rw [hset] at q8
    try simp only [bs]
    have lh := L.hh
    have lo := L.ho
    have lq := L.hqa
    have q0 := b7.B.qa0
    refine .some ⟨g8, ats.set f (a + 1), rfl, ⟨⟨by have := b7.B.len; have := s8.1; omega, fun q hq hn => (s8.2 q (by omega)).trans (b7.B.gr q hq hn), b7.B.cd.keep (s8.2 o (by omega)), q0, q8, by rw [List.length_set]; exact b7.B.al, fun f' n' p' hn' hp' => ?_, b7.B.out.keep fun q hq hin => s8.2 q ?_, fun p' hp' => ⟨(b7.B.its p' hp').1.keep fun q hq hin => s8.2 q ?_, (b7.B.its p' hp').2⟩⟩, by have := b7.pg; have := s8.1; omega, (s8.2 pb (by omega)).trans b7.pr, b7.ow.keep fun q hq hin => s8.2 q (by omega), b7.ok⟩⟩
    ·rw [List.getElem?_set] at hn'
     split at hn'
     ·rename_i hff
      subst hff
      split at hn'
      ·injection hn' with hn'
       rw [hpf] at hp'
       injection hp' with hp'
       subst hp'
       omega
      ·cases hn'
     ·exact b7.B.ab f' n' p' hn' hp'
    ·rcases b7.B.out with ⟨hx, _⟩ | ⟨ob, _, hx, hg⟩
     ·rw [hx] at hin; obtain ⟨_, _, hin⟩ := hin; cases hin
     ·rw [hx] at hin
      obtain ⟨_, _, hin⟩ := hin
      injection hin with _ hin
      subst hin
      rintro rfl
      have e := hg.symm.trans b7.B.at_
      injection e with e
      injection e with e
      exact absurd e (by decide)
    ·rcases (b7.B.its p' hp').1 with ⟨hx, _⟩ | ⟨ob, _, hx, hg⟩
     ·rw [hx] at hin; obtain ⟨_, _, hin⟩ := hin; cases hin
     ·rw [hx] at hin
      obtain ⟨_, _, hin⟩ := hin
      injection hin with _ hin
      subst hin
      rintro rfl
      have e := hg.symm.trans b7.B.at_
      injection e with e
      injection e with e
      exact absurd e (by decide)
   ·intro _
    exact .some ⟨g7, ats, rfl, b7⟩
   rintro _ ⟨g', ats', rfl, b'⟩
   simp only [a1t]
   exact .some ⟨g', ats', _, y6, _, _, _, _, _, _, _, _, rfl, b', by simp⟩
  ·have hu : a0L 4 (.ext 3) = .ext 3 := by simp [-bind_some, a0L]
   simp only [hu, b8f, a0l, a0f, a0n]
   exact .some ⟨g', ats, _, y', _, _, _, _, _, _, _, _, rfl, b', by simp⟩
 rintro _ ⟨g', ats', its', y', d1, d2, d3, d4, d5, d6, d7, d8, rfl, b', hl'⟩
 simp only [a0o, a0f, a0n, a0B, bs, hw]
 exact .some ⟨g', ats', its', y', _, _, _, _, _, _, _, _, _, rfl, b', hl'⟩
structure Bat where
 hs : Int
 nu : Int
 its : List It
 d : D
 hd : SlOf 11 itr its d
def a6N (b : Bat) : List D := [.int .i64 b.hs, .int .i64 b.nu, b.d]
theorem c5I {g : Hp} {a b T z T' z' : Nat} {r r' : List (List D)} (ha : g[a]? = some (.row T z r)) (hb : g[b]? = some (.row T' z' r')) (hn : T ≠ T') : a ≠ b := by
 rintro rfl
 have e := ha.symm.trans hb
 injection e with e
 injection e with e
 exact hn e
theorem b7m {g : Hp} {b n e z T' z' : Nat} {rows r' : List (List D)} {d : D} (ha : Own g n e z rows d) (hb : g[b]? = some (.row T' z' r')) (hn : e ≠ T') : ¬ d.inOb b := by
 rintro ⟨z1, n1, hin⟩
 rcases ha with ⟨hx, _⟩ | ⟨ob, _, hx, hg⟩
 ·rw [hx] at hin; cases hin
 ·rw [hx] at hin
  injection hin with _ hin
  exact c5I hg hb hn hin
theorem b9X {h : Hp} {o : Nat} {host : Int} {ps : List (List It × D)} {qa : Nat} {g : Hp} {x : D} {bt : List (List It × D × Int)} {ats : List Nat} (B : BtI h o host ps qa g x bt ats) (ho : o < h.length) (hl : bt.length ≤ 1000) (p : List It × D × Int)
  (hp : Own g h.length a0D 11 (p.1.map itr) p.2.1 ∧ p.1.length ≤ 3 ∧ (∀ i ∈ p.1, BIt host i) ∧ 0 ≤ p.2.2 ∧ p.2.2 ≤ 12) {β : Type} {f : D × Hp → Option β} {Q : β → Prop} (k : ∀ x' g', BtI h o host ps qa g' x' (bt ++ [p]) ats → (∀ q, x'.inOb q → x.inOb q ∨ g.length ≤ q) → g.length ≤ g'.length → Wp (f (x', g')) Q) :
  Wp ((a0C tab g a1G a1G x (.sl 3 true [a8W host p])).bind f) Q := by
 refine b8i B.len B.out (a1g _ _ _ _) (by simp; omega) fun x' g' ow len bel keep fre => k x' g' ?_ fre len
 have qal := (d5p.1 B.at_).1
 refine ⟨Nat.le_trans B.len len, fun q hq hn => (bel q hq).trans (B.gr q hq hn), B.cd.keep (bel o ho), B.qa0, (keep qa qal (b7m B.out B.at_ (by decide))).trans B.at_, B.al, B.ab, ?_, fun p' hp' => ?_⟩
 ·rw [d5e]; exact ow
 ·have kp : ∀ p' : List It × D × Int, Own g h.length a0D 11 (p'.1.map itr) p'.2.1 → Own g' h.length a0D 11 (p'.1.map itr) p'.2.1 := fun p' w => w.keep fun q hq hin => keep q (w.lt hin).2 (b7l w B.out (by decide) hin)
  rcases d5v.1 hp' with hm | hm
  ·exact ⟨kp _ (B.its p' hm).1, (B.its p' hm).2⟩
  ·simp only [List.mem_singleton] at hm
   subst hm
   exact ⟨kp _ hp.1, hp.2⟩
theorem BtI.same {h : Hp} {o : Nat} {host : Int} {ps : List (List It × D)} {qa : Nat} {g g' : Hp} {x : D} {bt : List (List It × D × Int)} {ats : List Nat} (B : BtI h o host ps qa g x bt ats) (ho : o < h.length) (hcd : CD g' o) (hs : Same o g g') : BtI h o host ps qa g' x bt ats := by
 have h1 := B.qa0
 exact ⟨by rw [hs.1]; exact B.len, fun q hq hn => (hs.2 q hn).trans (B.gr q hq hn), hcd, B.qa0, (hs.2 qa (by omega)).trans B.at_, B.al, B.ab, B.out.same hs ho, fun p hp => ⟨(B.its p hp).1.same hs ho, (B.its p hp).2⟩⟩
theorem d4y (g : Hp) (n : Nat) (hn : n ≤ 100) : a9b tab g b1i (.int .i64 n) (.int .i64 n) = some (.msl 1 g.length 0 n, a0F g ty3 1 ((List.replicate n 0).map atR)) := by
 have h1 : tab b1i = some ti82 := id rfl
 have h2 : ti82.td = .sl ty3 := id rfl
 have h3 : tab ty3 = some ti3 := id rfl
 have h4 : ti3.sz = 1 := id rfl
 have h5 : ti3.zero = atR 0 := id rfl
 have h6 : lim n ti3.by_ = true := a4j (by have : ti3.by_ = 8 := rfl; rw [this]; omega) (by omega)
 have h7 : (0 : Int) ≤ (n : Int) := by omega
 simp [-bind_some, a9b, h1, h2, h3, h4, h5, h6]
structure SOrd {α : Type} (c : α → α → Int) (S Pre : α → α → Prop) : Prop where
 tr : ∀ x y z, S x y → S y z → S x z
 lt : ∀ x y, Pre x y → c y x < 0 → S y x
 ge : ∀ x y, Pre x y → ¬ c y x < 0 → S x y
theorem c0A {α : Type} {c : α → α → Int} {S Pre : α → α → Prop} (o : SOrd c S Pre) {A1 A2 : List α} {x : α} (hA : (A1 ++ A2).Pairwise S) (hp : ∀ y ∈ A1 ++ A2, Pre y x)
  (h2 : A2 = [] ∨ ∃ y r, A2 = y :: r ∧ c x y < 0) (h1 : A1 = [] ∨ ∃ y r, A1 = r ++ [y] ∧ ¬ c x y < 0) : (A1 ++ x :: A2).Pairwise S := by
 rw [List.pairwise_append] at hA ⊢
 obtain ⟨p1, p2, p3⟩ := hA
 have q1 : ∀ a ∈ A1, S a x := by
  rcases h1 with rfl | ⟨y, r, rfl, hy⟩
  ·intro a ha; cases ha
  ·intro a ha
   have hyx : S y x := o.ge y x (hp y (by simp)) hy
   rw [List.pairwise_append] at p1
   rcases d5v.1 ha with ha | ha
   ·exact o.tr _ _ _ (p1.2.2 a ha y (by simp)) hyx
   ·simp at ha; subst ha; exact hyx
 have q2 : ∀ b ∈ A2, S x b := by
  rcases h2 with rfl | ⟨y, r, rfl, hy⟩
  ·intro a ha; cases ha
  ·intro b hb
   have hxy : S x y := o.lt y x (hp y (by simp)) hy
   rw [List.pairwise_cons] at p2
   rcases d5u.1 hb with rfl | hb
   ·exact hxy
   ·exact o.tr _ _ _ hxy (p2.1 b hb)
 refine ⟨p1, List.pairwise_cons.2 ⟨q2, p2⟩, fun a ha b hb => ?_⟩
 rcases d5u.1 hb with rfl | hb
 ·exact q1 a ha
 ·exact p3 a ha b hb
theorem b5s {α : Type} (c : α → α → Int) (P : List α) (x : α) : ∀ (R : List α) (Q : List α), ∃ A1 A2, R.reverse = A1 ++ A2 ∧ dn c P.length (P.length + R.length) (P ++ R.reverse ++ x :: Q) = P ++ A1 ++ x :: A2 ++ Q ∧
  (A2 = [] ∨ ∃ y r, A2 = y :: r ∧ c x y < 0) ∧ (A1 = [] ∨ ∃ y r, A1 = r ++ [y] ∧ ¬ c x y < 0)
 | [], Q => ⟨[], [], rfl, by
   cases P with
   | nil => simp [-bind_some, dn]
   | cons p P =>
    simp only [d5q, d5r, Nat.add_zero, List.reverse_nil, List.append_nil]
    unfold dn
    split
    ·rw [if_neg (by omega)]; simp [-bind_some]
    ·simp [-bind_some], .inl rfl, .inl rfl⟩
 | y :: R, Q => by
  have g1 : (P ++ (y :: R).reverse ++ x :: Q)[P.length + R.length + 1]? = some x := by
   rw [List.getElem?_append_right (by simp; omega)]
   simp [-bind_some]
   try (have : P.length + R.length + 1 - (P.length + (R.length + 1)) = 0 := by omega
        rw [this]; rfl)
  have g0 : (P ++ (y :: R).reverse ++ x :: Q)[P.length + R.length]? = some y := by
   rw [d5y (by simp), List.getElem?_append_right (by omega)]
   simp [-bind_some]
  rw [d5q, ← Nat.add_assoc]
  unfold dn
  rw [g1, g0]
  simp only
  by_cases hc : c x y < 0
  ·rw [if_pos ⟨by omega, hc⟩]
   have hs : ((P ++ (y :: R).reverse ++ x :: Q).set (P.length + R.length + 1) y).set (P.length + R.length) x = P ++ R.reverse ++ x :: (y :: Q) := by
    have e1 : P ++ (y :: R).reverse ++ x :: Q = (P ++ R.reverse) ++ y :: x :: Q := by simp
    rw [e1]
    have l1 : (P ++ R.reverse).length = P.length + R.length := by simp
    rw [List.set_append_right _ _ (by omega), List.set_append_right _ _ (by omega), l1]
    have : P.length + R.length + 1 - (P.length + R.length) = 1 := by omega
    rw [this, Nat.sub_self]
    rfl
   rw [hs]
   obtain ⟨A1, A2, h1, h2, h3, h4⟩ := b5s c P x R (y :: Q)
   refine ⟨A1, A2 ++ [y], by simp [-bind_some, h1], by rw [h2]; simp [-bind_some], ?_, h4⟩
   rcases h3 with rfl | ⟨u, r, rfl, hu⟩
   ·exact .inr ⟨y, [], rfl, hc⟩
   ·exact .inr ⟨u, r ++ [y], rfl, hu⟩
  ·rw [if_neg (fun hh => hc hh.2)]
   exact ⟨(y :: R).reverse, [], by simp, by simp, .inl rfl, .inr ⟨y, R.reverse, by simp, hc⟩⟩
theorem c4I {α : Type} (c : α → α → Int) (P A Q : List α) (x : α) : ∃ A1 A2, A = A1 ++ A2 ∧ dn c P.length (P.length + A.length) (P ++ A ++ x :: Q) = P ++ A1 ++ x :: A2 ++ Q ∧
  (A2 = [] ∨ ∃ y r, A2 = y :: r ∧ c x y < 0) ∧ (A1 = [] ∨ ∃ y r, A1 = r ++ [y] ∧ ¬ c x y < 0) := by
 have := b5s c P x A.reverse Q
 simpa using this
theorem b6t {α : Type} {c : α → α → Int} {S Pre : α → α → Prop} (o : SOrd c S Pre) (P Q : List α) : ∀ (B A : List α), A.Pairwise S → (∀ x ∈ A, ∀ y ∈ B, Pre x y) → B.Pairwise Pre →
  ∃ C, isr c P.length (P.length + A.length) B.length (P ++ A ++ B ++ Q) = P ++ C ++ Q ∧ C.Perm (A ++ B) ∧ C.Pairwise S
 | [], A, hA, _, _ => ⟨A, by simp [-bind_some, isr], by simp, hA⟩
 | x :: B, A, hA, hp, hB => by
  rw [List.pairwise_cons] at hB
  obtain ⟨A1, A2, rfl, h2, h3, h4⟩ := c4I c P A (B ++ Q) x
  have hA' : (A1 ++ x :: A2).Pairwise S := c0A o hA (fun y hy => hp y hy x (by simp)) h3 h4
  have e1 : P ++ (A1 ++ A2) ++ x :: B ++ Q = P ++ (A1 ++ A2) ++ x :: (B ++ Q) := by simp
  have hpm : (A1 ++ x :: A2).Perm (x :: (A1 ++ A2)) := List.perm_middle
  obtain ⟨C, q1, q2, q3⟩ := b6t o P Q B (A1 ++ x :: A2) hA' (fun u hu v hv => by
   rcases d5u.1 (hpm.mem_iff.1 hu) with rfl | hu
   ·exact hB.1 v hv
   ·exact hp u hu v (by simp [-bind_some, hv])) hB.2
  refine ⟨C, ?_, q2.trans ?_, q3⟩
  ·rw [d5q]
   unfold isr
   rw [e1, h2, ← q1]
   have e2 : P.length + (A1 ++ A2).length + 1 = P.length + (A1 ++ x :: A2).length := by simp; omega
   have e3 : P ++ A1 ++ x :: A2 ++ (B ++ Q) = P ++ (A1 ++ x :: A2) ++ B ++ Q := by simp
   rw [e2, e3]
  ·have : ((A1 ++ x :: A2) ++ B).Perm ((x :: (A1 ++ A2)) ++ B) := hpm.append_right B
   refine this.trans ?_
   simpa using (List.perm_middle (l₁ := A1 ++ A2) (l₂ := B) (a := x)).symm
inductive Blk {α : Type} (S Pre : α → α → Prop) (k : Nat) : List α → Prop
 | last (A : List α) (hl : A.length ≤ k) (hs : A.Pairwise S) : Blk S Pre k A
 | cons (A Y : List α) (hl : A.length = k) (hs : A.Pairwise S) (hp : ∀ x ∈ A, ∀ y ∈ Y, Pre x y) (hY : Blk S Pre k Y) : Blk S Pre k (A ++ Y)
theorem Blk.all {α : Type} {S Pre : α → α → Prop} {k : Nat} {l : List α} (h : Blk S Pre k l) (hl : l.length ≤ k) : l.Pairwise S := by
 cases h with
 | last _ _ hs => exact hs
 | cons A Y hA hs hp hY =>
  have : Y = [] := by
   simp at hl
   exact List.length_eq_zero_iff.1 (by omega)
  subst this
  simpa using hs
theorem Blk.fst {α : Type} {S Pre : α → α → Prop} {k : Nat} {l : List α} (h : Blk S Pre k l) (hl : k ≤ l.length) : ∃ A Y, l = A ++ Y ∧ A.length = k ∧ A.Pairwise S ∧ (∀ x ∈ A, ∀ y ∈ Y, Pre x y) ∧ Blk S Pre k Y := by
 cases h with
 | last _ h1 hs => exact ⟨l, [], by simp, by omega, hs, by simp, .last [] (by simp) List.Pairwise.nil⟩
 | cons A Y hA hs hp hY => exact ⟨A, Y, rfl, hA, hs, hp, hY⟩
def CtxB {α : Type} (S Pre : α → α → Prop) (k : Nat) (X Y : List α) : Prop := ∀ Z : List α, Z.Perm Y → Blk S Pre k Z → Blk S Pre k (X ++ Z)
theorem CtxB.nil {α : Type} {S Pre : α → α → Prop} {k : Nat} {Y : List α} : CtxB S Pre k [] Y := fun Z _ h => h
theorem CtxB.step {α : Type} {S Pre : α → α → Prop} {k : Nat} {X A Y C : List α} (h : CtxB S Pre k X (A ++ Y)) (hC : C.Perm A) (hl : C.length = k) (hs : C.Pairwise S) (hp : ∀ x ∈ A, ∀ y ∈ Y, Pre x y) : CtxB S Pre k (X ++ C) Y := fun Z hZ hb => by
 rw [List.append_assoc]
 exact h (C ++ Z) (hC.append hZ) (.cons C Z hl hs (fun x hx y hy => hp x (hC.mem_iff.1 hx) y (hZ.mem_iff.1 hy)) hb)
theorem CtxB.done {α : Type} {S Pre : α → α → Prop} {k : Nat} {X Y Z : List α} (h : CtxB S Pre k X Y) (hZ : Z.Perm Y) (hl : Z.length ≤ k) (hs : Z.Pairwise S) : Blk S Pre k (X ++ Z) := h Z hZ (.last Z hl hs)
theorem c5a {α : Type} {c : α → α → Int} {S Pre : α → α → Prop} (o : SOrd c S Pre) {A1 A2 B1 B2 C1 C2 : List α} (hA : (A1 ++ A2).Pairwise S) (hB : (B1 ++ B2).Pairwise S) (hp : ∀ x ∈ A1 ++ A2, ∀ y ∈ B1 ++ B2, Pre x y)
  (h1 : A1 = [] ∨ B2 = [] ∨ ∃ x y r s, A1 = r ++ [x] ∧ B2 = y :: s ∧ ¬ c y x < 0) (h2 : A2 = [] ∨ B1 = [] ∨ ∃ x y r s, B1 = r ++ [y] ∧ A2 = x :: s ∧ c y x < 0)
  (p1 : C1.Perm (A1 ++ B1)) (s1 : C1.Pairwise S) (p2 : C2.Perm (A2 ++ B2)) (s2 : C2.Pairwise S) : (C1 ++ C2).Perm ((A1 ++ A2) ++ (B1 ++ B2)) ∧ (C1 ++ C2).Pairwise S := by
 rw [List.pairwise_append] at hA hB
 have x1 : ∀ x ∈ A1, ∀ y ∈ B2, S x y := by
  intro x hx y hy
  rcases h1 with rfl | rfl | ⟨u, v, r, s, rfl, rfl, huv⟩
  ·cases hx
  ·cases hy
  ·have huv : S u v := o.ge u v (hp u (by simp) v (by simp)) huv
   have q1 : x = u ∨ S x u := by
    have := hA.1
    rw [List.pairwise_append] at this
    rcases d5v.1 hx with hx | hx
    ·exact .inr (this.2.2 x hx u (by simp))
    ·simp at hx; exact .inl hx
   have q2 : y = v ∨ S v y := by
    have := hB.2.1
    rw [List.pairwise_cons] at this
    rcases d5u.1 hy with rfl | hy
    ·exact .inl rfl
    ·exact .inr (this.1 y hy)
   rcases q1 with rfl | q1 <;> rcases q2 with rfl | q2
   ·exact huv
   ·exact o.tr _ _ _ huv q2
   ·exact o.tr _ _ _ q1 huv
   ·exact o.tr _ _ _ (o.tr _ _ _ q1 huv) q2
 have x2 : ∀ y ∈ B1, ∀ x ∈ A2, S y x := by
  intro y hy x hx
  rcases h2 with rfl | rfl | ⟨u, v, r, s, rfl, rfl, huv⟩
  ·cases hx
  ·cases hy
  ·have huv : S v u := o.lt u v (hp u (by simp) v (by simp)) huv
   have q1 : y = v ∨ S y v := by
    have := hB.1
    rw [List.pairwise_append] at this
    rcases d5v.1 hy with hy | hy
    ·exact .inr (this.2.2 y hy v (by simp))
    ·simp at hy; exact .inl hy
   have q2 : x = u ∨ S u x := by
    have := hA.2.1
    rw [List.pairwise_cons] at this
    rcases d5u.1 hx with rfl | hx
    ·exact .inl rfl
    ·exact .inr (this.1 x hx)
   rcases q1 with rfl | q1 <;> rcases q2 with rfl | q2
   ·exact huv
   ·exact o.tr _ _ _ huv q2
   ·exact o.tr _ _ _ q1 huv
   ·exact o.tr _ _ _ (o.tr _ _ _ q1 huv) q2
 refine ⟨?_, List.pairwise_append.2 ⟨s1, s2, fun a ha b hb => ?_⟩⟩
 ·refine (p1.append p2).trans ?_
  have : (B1 ++ (A2 ++ B2)).Perm (A2 ++ (B1 ++ B2)) := by
   rw [← List.append_assoc, ← List.append_assoc]
   exact List.perm_append_comm.append_right B2
  simpa using this.append_left A1
 ·rcases d5v.1 (p1.mem_iff.1 ha) with ha | ha <;> rcases d5v.1 (p2.mem_iff.1 hb) with hb | hb
  ·exact hA.2.2 a ha b hb
  ·exact x1 a ha b hb
  ·exact x2 a ha b hb
  ·exact hB.2.2 a ha b hb
def U8 (z : Int) : Prop := 0 ≤ z ∧ z < 256
theorem U8.u32 {z : Int} (h : U8 z) : U32 z := ⟨h.1, by have := h.2; omega⟩
def num (l : List Int) : Int := l.foldl (fun v b => v * 256 + b) 0
theorem a6Z (n : Int) : IntKind.wrap .u8 n = n % 256 := by
 unfold IntKind.wrap
 simp [-bind_some, IntKind.signed, IntKind.bits, IntKind.min, IntKind.max]
theorem d4z (a b c d : Int) : num [a, b, c, d] = ((a * 256 + b) * 256 + c) * 256 + d := by simp [-bind_some, num]
def rdN : Nat → List Int → List (List Int) × Nat
 | 0, _ => ([], 0)
 | k + 1, r => if r.length < 8 ∨ (num (r.take 4)).toNat < 1 ∨ 8388608 < (num (r.take 4)).toNat ∨ r.length - 8 < (num (r.take 4)).toNat ∨ num ((r.drop 4).take 4) ≠ crc (r.take 4 ++ (r.drop 8).take (num (r.take 4)).toNat) then ([], 0)
  else ((r.drop 8).take (num (r.take 4)).toNat :: (rdN k (r.drop (8 + (num (r.take 4)).toNat))).1, 8 + (num (r.take 4)).toNat + (rdN k (r.drop (8 + (num (r.take 4)).toNat))).2)
def rd (r : List Int) : List (List Int) × Nat := rdN r.length r
def a4l : Nat → Int → List Int
 | 0, _ => []
 | n + 1, v => IntKind.wrap .u8 (v.fdiv (2 ^ (8 * n))) :: a4l n v
theorem a1e : ∀ (n : Nat) (v : Int), (a4l n v).length = n
 | 0, v => rfl
 | n + 1, v => by simp [-bind_some, a4l, a1e n v]
theorem b7u (v : Int) : a4l 4 v = a2Y v := by
 unfold a2Y
 simp [-bind_some, a4l, Int.fdiv_eq_ediv_of_nonneg]
theorem a4C : ∀ (n : Nat) (v : Int), ∀ z ∈ a4l n v, U8 z
 | 0, v, z, hz => by cases hz
 | n + 1, v, z, hz => by
  rcases d5u.1 hz with rfl | hz
  ·rw [a6Z]; unfold U8; omega
  ·exact a4C n v z hz
def sby (s : Str) : List Int := s.map fun c => (c.toNat : Int)
theorem a6q (s : Str) : (sby s).length = s.length := by simp [-bind_some, sby]
theorem c6s (s : Str) : ∀ z ∈ sby s, U8 z := by
 intro z hz
 obtain ⟨c, _, rfl⟩ := d5w.1 hz
 have := c.toNat_lt
 unfold U8
 omega
theorem b9A (s : Str) : a0Y s = (sby s).map byr := by simp [-bind_some, a0Y, sby, byr, List.map_map, Function.comp_def]
structure Bw (n0 : Nat) (h : Hp) (d : D) (h' : Hp) (l : List Int) (d' : D) : Prop where
 ow : Own h' n0 ty5 1 (l.map byr) d'
 len : h.length ≤ h'.length
 old : ∀ q, q < h.length → ¬ d.inOb q → h'[q]? = h[q]?
 new : ∀ q, d'.inOb q → d.inOb q ∨ h.length ≤ q
theorem Bw.trans {n0 : Nat} {h h1 h2 : Hp} {d d1 d2 : D} {l1 l2 : List Int} (a : Bw n0 h d h1 l1 d1) (b : Bw n0 h1 d1 h2 l2 d2) : Bw n0 h d h2 l2 d2 :=
 ⟨b.ow, Nat.le_trans a.len b.len, fun q hq hd => (b.old q (Nat.lt_of_lt_of_le hq a.len) fun hx => by rcases a.new q hx with h1 | h1; exact hd h1; omega).trans (a.old q hq hd),
  fun q hq => by rcases b.new q hq with h1 | h1; exact a.new q h1; exact .inr (Nat.le_trans a.len h1)⟩
theorem Bw.refl {n0 : Nat} {h : Hp} {d : D} {l : List Int} (ow : Own h n0 ty5 1 (l.map byr) d) : Bw n0 h d h l d := ⟨ow, Nat.le_refl _, fun _ _ _ => rfl, fun _ hq => .inl hq⟩
theorem b3Z {n0 : Nat} {h : Hp} {d y : D} {l m : List Int} (hn : n0 ≤ h.length) (ow : Own h n0 ty5 1 (l.map byr) d) (hy : a1C h 1 y = some (m.map byr)) (hl : l.length + m.length ≤ 1000000000) : ∃ d' h', a0C tab h a0H a0H d y = some (d', h') ∧ Bw n0 h d h' (l ++ m) d' := by
 have key := @b1d h n0 hn (l.map byr) d y ow _ hy (by simp; omega) _ (fun r => some r) (fun r => Bw n0 h d r.2 (l ++ m) r.1) (fun x' h' a b _ c e => .some ⟨by rw [d5e]; exact a, b, c, e⟩)
 obtain ⟨⟨x', g⟩, e1, B⟩ := key
 refine ⟨x', g, ?_, B⟩
 cases hq : a0C tab h a0H a0H d y with
 | none => rw [hq] at e1; cases e1
 | some r => rw [hq] at e1; exact e1
theorem c7f (h : Hp) (x : D) (s : Str) : a0C tab h a0H ty9 x (.str s) = a0C tab h a0H a0H x (.sl 1 true (a0Y s)) := id rfl
theorem c4s {n0 : Nat} {h : Hp} {d : D} {l : List Int} (hn : n0 ≤ h.length) (ow : Own h n0 ty5 1 (l.map byr) d) (s : Str) (hl : l.length + s.length ≤ 1000000000) : ∃ d' h', a0C tab h a0H ty9 d (.str s) = some (d', h') ∧ Bw n0 h d h' (l ++ sby s) d' := by
 rw [c7f, b9A]
 exact b3Z hn ow (a1g _ _ _ _) (by rw [a6q]; exact hl)
theorem d0V (v : Int) (n0 : Nat) : ∀ (k : Nat), k ≤ 8 → ∀ (h : Hp) (l : List Int) (d a : D), n0 ≤ h.length → Own h n0 ty5 1 (l.map byr) d → l.length + k ≤ 1000000000 → ∃ d' h' b, a0I (a6J (.int .u64 v)) [d, .int .i64 ((k : Int) - 1), a] h = some (.ext 0, [d', b, .bool false], h') ∧ Bw n0 h d h' (l ++ a4l k v) d' := by
 intro k
 induction k with
 | zero =>
  intro _ h l d a hn ow hr
  rw [a1F]
  refine ⟨d, h, _, by simp [-bind_some, a6J]; rfl, ?_⟩
  simpa [-bind_some, a4l] using Bw.refl ow
 | succ k ih =>
  intro hk h l d a hn ow hr
  have hg : (0 : Int) ≤ ((k + 1 : Nat) : Int) - 1 := by omega
  have hw1 : IntKind.wrap .i64 (8 * (((k + 1 : Nat) : Int) - 1)) = 8 * (k : Int) := by rw [wrap_i64 (by omega) (by omega)]; omega
  have hw2 : IntKind.wrap .i64 (((k + 1 : Nat) : Int) - 1 - 1) = (k : Int) - 1 := by rw [wrap_i64 (by omega) (by omega)]; omega
  have hw3 : IntKind.wrap .u64 (8 * (k : Int)) = 8 * (k : Int) := a1j (by omega) (by omega)
  have h8 : ¬ (8 * (k : Int)) < 0 := by omega
  have hmn : min (8 * (k : Int)).toNat IntKind.u64.bits = 8 * k := by
   have : IntKind.u64.bits = 64 := rfl
   rw [this]; omega
  obtain ⟨x', g, e1, B1⟩ := b3Z (y := .sl 1 true [byr (IntKind.wrap .u8 (v.fdiv (2 ^ (8 * k))))]) (m := [IntKind.wrap .u8 (v.fdiv (2 ^ (8 * k)))]) hn ow (a1g _ _ _ _) (by simp; omega)
  obtain ⟨d', h', b, e2, B2⟩ := ih (by omega) g _ x' (.bool true) (Nat.le_trans hn B1.len) B1.ow (by simp; omega)
  refine ⟨d', h', b, ?_, ?_⟩
  ·rw [a1F]
   simp only [a6J, a0f, a0n, bs, a2U, decide_eq_true hg, a0d, if_true, a3j, hw1, a7i, hw3, a2n, h8, if_false, hmn, a6P, b2G, show ∀ z, ([[D.int .u8 z]] : List (List D)) = [byr z] from fun _ => rfl, e1, a0B, hw2]
   exact e2
  ·have := B1.trans B2
   simpa [-bind_some, a4l] using this
theorem b7L (v : Int) (k : Nat) (hk : k ≤ 8) (n0 : Nat) (h : Hp) (l : List Int) (d : D) (hn : n0 ≤ h.length) (ow : Own h n0 ty5 1 (l.map byr) d) (hr : l.length ≤ 999999000) : ∃ d' h', R a3A [d, .int .u64 v, .int .i64 k] h = some (d', h') ∧ Bw n0 h d h' (l ++ a4l k v) d' := by
 obtain ⟨d', h', b, e1, B⟩ := d0V v n0 k hk h l d .any hn ow (by omega)
 refine ⟨d', h', ?_, B⟩
 rw [c8t]
 have hw : IntKind.wrap .i64 ((k : Int) - 1) = (k : Int) - 1 := by rw [wrap_i64 (by omega) (by omega)]
 simp only [c3O, bs, a0B, hw, d4X, e1, a0l, a0o, a0f, a0g]
theorem c5l (v : Int) (n0 : Nat) : ∀ (k : Nat), k ≤ 8 → ∀ (h : Hp) (l : List Int) (d a : D), n0 ≤ h.length → Own h n0 ty5 1 (l.map byr) d → l.length + k ≤ 1000000000 → ∃ d' h' b, a0I (a3N (.int .u64 v)) [d, .int .i64 ((k : Int) - 1), a] h = some (.ext 0, [d', b, .bool false], h') ∧ Bw n0 h d h' (l ++ a4l k v) d' := by
 intro k
 induction k with
 | zero =>
  intro _ h l d a hn ow hr
  rw [a1F]
  refine ⟨d, h, _, by simp [-bind_some, a3N]; rfl, ?_⟩
  simpa [-bind_some, a4l] using Bw.refl ow
 | succ k ih =>
  intro hk h l d a hn ow hr
  have hg : (0 : Int) ≤ ((k + 1 : Nat) : Int) - 1 := by omega
  have hw1 : IntKind.wrap .i64 (8 * (((k + 1 : Nat) : Int) - 1)) = 8 * (k : Int) := by rw [wrap_i64 (by omega) (by omega)]; omega
  have hw2 : IntKind.wrap .i64 (((k + 1 : Nat) : Int) - 1 - 1) = (k : Int) - 1 := by rw [wrap_i64 (by omega) (by omega)]; omega
  have h8 : ¬ (8 * (k : Int)) < 0 := by omega
  have hmn : min (8 * (k : Int)).toNat IntKind.u64.bits = 8 * k := by
   have : IntKind.u64.bits = 64 := rfl
   rw [this]; omega
  obtain ⟨x', g, e1, B1⟩ := b3Z (y := .sl 1 true [byr (IntKind.wrap .u8 (v.fdiv (2 ^ (8 * k))))]) (m := [IntKind.wrap .u8 (v.fdiv (2 ^ (8 * k)))]) hn ow (a1g _ _ _ _) (by simp; omega)
  obtain ⟨d', h', b, e2, B2⟩ := ih (by omega) g _ x' (.bool true) (Nat.le_trans hn B1.len) B1.ow (by simp; omega)
  refine ⟨d', h', b, ?_, ?_⟩
  ·rw [a1F]
   simp only [a3N, a0f, a0n, bs, a2U, decide_eq_true hg, a0d, if_true, a3j, hw1, a2n, h8, if_false, hmn, a6P, b2G, show ∀ z, ([[D.int .u8 z]] : List (List D)) = [byr z] from fun _ => rfl, e1, a0B, hw2]
   exact e2
  ·have := B1.trans B2
   simpa [-bind_some, a4l] using this
theorem b7H (v : Int) (k : Nat) (hk : k ≤ 8) (n0 : Nat) (h : Hp) (l : List Int) (d : D) (hn : n0 ≤ h.length) (ow : Own h n0 ty5 1 (l.map byr) d) (hr : l.length ≤ 999999000) : ∃ d' h', R a4s [d, .int .u64 v, .int .i64 k] h = some (d', h') ∧ Bw n0 h d h' (l ++ a4l k v) d' := by
 obtain ⟨d', h', b, e1, B⟩ := c5l v n0 k hk h l d .any hn ow (by omega)
 refine ⟨d', h', ?_, B⟩
 rw [c4J]
 have hw : IntKind.wrap .i64 ((k : Int) - 1) = (k : Int) - 1 := by rw [wrap_i64 (by omega) (by omega)]
 simp only [c0U, bs, a0B, hw, d4X, e1, a0l, a0o, a0f, a0g]
def pI (n : Int) : List Int := a4l 8 (IntKind.wrap .u64 n)
def pN (n : Nat) : List Int := a4l 4 (IntKind.wrap .u64 n)
def pS (s : Str) : List Int := pN s.length ++ sby s
theorem a1d (n : Int) : (pI n).length = 8 := a1e _ _
theorem a1x (n : Nat) : (pN n).length = 4 := a1e _ _
theorem a1v (s : Str) : (pS s).length = 4 + s.length := by simp [-bind_some, pS, a1x, a6q]
theorem d1A (n : Int) (n0 : Nat) (h : Hp) (l : List Int) (d : D) (hn : n0 ≤ h.length) (ow : Own h n0 ty5 1 (l.map byr) d) (hr : l.length ≤ 999999000) : ∃ d' h', R a4t [d, .int .i64 n] h = some (d', h') ∧ Bw n0 h d h' (l ++ pI n) d' := by
 obtain ⟨d', h', e1, B⟩ := b7L (IntKind.wrap .u64 n) 8 (by omega) n0 h l d hn ow hr
 refine ⟨d', h', ?_, B⟩
 rw [c8w]
 have e1 : R a3A [d, .int .u64 (IntKind.wrap .u64 n), .int .i64 8] h = some (d', h') := e1
 simp only [c3R, bs, a2f, e1, a0g]
theorem d1z (s : Str) (n0 : Nat) (h : Hp) (l : List Int) (d : D) (hn : n0 ≤ h.length) (ow : Own h n0 ty5 1 (l.map byr) d) (hr : l.length + s.length ≤ 999998000) : ∃ d' h', R a5Q [d, .str s] h = some (d', h') ∧ Bw n0 h d h' (l ++ pS s) d' := by
 obtain ⟨d1, h1, e1, B1⟩ := b7L (IntKind.wrap .u64 s.length) 4 (by omega) n0 h l d hn ow (by omega)
 obtain ⟨d2, h2, e2, B2⟩ := c4s (Nat.le_trans hn B1.len) B1.ow s (by simp [-bind_some, a1e]; omega)
 have B := B1.trans B2
 refine ⟨d2, h2, ?_, by simpa [-bind_some, pS, pN] using B⟩
 rw [c8v]
 have e1 : R a3A [d, .int .u64 (IntKind.wrap .u64 s.length), .int .i64 4] h = some (d1, h1) := e1
 simp only [c3Q, bs, a4x, a2f, e1, e2, a0g]
theorem a6m {n0 : Nat} {h0 h : Hp} {d0 d : D} {l : List Int} (B : Bw n0 h0 d0 h l d) (hn : n0 ≤ h.length) (s : Str) (hr : l.length + s.length ≤ 999998000) {β : Type} {f : D × Hp → Option β} {Q : β → Prop}
  (k : ∀ d' h', Bw n0 h0 d0 h' (l ++ pS s) d' → n0 ≤ h'.length → Wp (f (d', h')) Q) : Wp ((R a5Q [d, .str s] h).bind f) Q := by
 obtain ⟨d', h', e, B1⟩ := d1z s n0 h l d hn B.ow hr
 exact Wp.step e (k d' h' (B.trans B1) (Nat.le_trans hn B1.len))
theorem a4B {n0 : Nat} {h0 h : Hp} {d0 d : D} {l : List Int} (B : Bw n0 h0 d0 h l d) (hn : n0 ≤ h.length) (n : Int) (hr : l.length ≤ 999999000) {β : Type} {f : D × Hp → Option β} {Q : β → Prop}
  (k : ∀ d' h', Bw n0 h0 d0 h' (l ++ pI n) d' → n0 ≤ h'.length → Wp (f (d', h')) Q) : Wp ((R a4t [d, .int .i64 n] h).bind f) Q := by
 obtain ⟨d', h', e, B1⟩ := d1A n n0 h l d hn B.ow hr
 exact Wp.step e (k d' h' (B.trans B1) (Nat.le_trans hn B1.len))
theorem b7r {n0 : Nat} {h0 h : Hp} {d0 d : D} {l : List Int} (B : Bw n0 h0 d0 h l d) (hn : n0 ≤ h.length) (v : Int) (hr : l.length ≤ 999999000) {β : Type} {f : D × Hp → Option β} {Q : β → Prop}
  (k : ∀ d' h', Bw n0 h0 d0 h' (l ++ a4l 4 v) d' → n0 ≤ h'.length → Wp (f (d', h')) Q) : Wp ((R a3A [d, .int .u64 v, .int .i64 4] h).bind f) Q := by
 obtain ⟨d', h', e, B1⟩ := b7L v 4 (by omega) n0 h l d hn B.ow hr
 exact Wp.step e (k d' h' (B.trans B1) (Nat.le_trans hn B1.len))
theorem b4N {n0 : Nat} {h0 h : Hp} {d0 d y : D} {l m : List Int} (B : Bw n0 h0 d0 h l d) (hn : n0 ≤ h.length) (hy : a1C h 1 y = some (m.map byr)) (hl : l.length + m.length ≤ 1000000000) {β : Type} {f : D × Hp → Option β} {Q : β → Prop}
  (k : ∀ d' h', Bw n0 h0 d0 h' (l ++ m) d' → n0 ≤ h'.length → Wp (f (d', h')) Q) : Wp ((a0C tab h a0H a0H d y).bind f) Q := by
 obtain ⟨d', h', e, B1⟩ := b3Z hn B.ow hy hl
 exact Wp.step e (k d' h' (B.trans B1) (Nat.le_trans hn B1.len))
def lnB (l : Lin) : List Int := pI l.off ++ pI l.len ++ pS l.txt
def fdB (f : Str × Str) : List Int := pS f.1 ++ pS f.2
def a3g (i : It) : List Int := pS i.r ++ pI i.e.a0 ++ pI i.e.a1 ++ pI i.e.a2 ++ pI i.e.a3 ++ pN i.e.ls.length
def a4T (i : It) : List Int := a3g i ++ (i.e.ls.map lnB).flatten ++ pI i.e.a5 ++ pI i.e.a6 ++ pS i.e.s7 ++ pS i.e.s8 ++ pN i.e.fs.length
def a1S (i : It) : List Int := a4T i ++ (i.e.fs.map fdB).flatten
theorem eF0 (e : Ev) : a0a tab a0E 0 (.fptr (evr e)) = some (.fptr ((evr e).drop 0)) := id rfl
theorem eF1 (e : Ev) : a0a tab a0E 1 (.fptr (evr e)) = some (.fptr ((evr e).drop 1)) := id rfl
theorem eF2 (e : Ev) : a0a tab a0E 2 (.fptr (evr e)) = some (.fptr ((evr e).drop 2)) := id rfl
theorem eF3 (e : Ev) : a0a tab a0E 3 (.fptr (evr e)) = some (.fptr ((evr e).drop 3)) := id rfl
theorem eF4 (e : Ev) : a0a tab a0E 4 (.fptr (evr e)) = some (.fptr ((evr e).drop 4)) := id rfl
theorem eF5 (e : Ev) : a0a tab a0E 5 (.fptr (evr e)) = some (.fptr ((evr e).drop 5)) := id rfl
theorem eF6 (e : Ev) : a0a tab a0E 6 (.fptr (evr e)) = some (.fptr ((evr e).drop 6)) := id rfl
theorem eF7 (e : Ev) : a0a tab a0E 7 (.fptr (evr e)) = some (.fptr ((evr e).drop 7)) := id rfl
theorem eF8 (e : Ev) : a0a tab a0E 8 (.fptr (evr e)) = some (.fptr ((evr e).drop 8)) := id rfl
theorem eF9 (e : Ev) : a0a tab a0E 9 (.fptr (evr e)) = some (.fptr ((evr e).drop 9)) := id rfl
theorem eL0 (e : Ev) (g : Hp) : a0c tab g ty3 (.fptr ((evr e).drop 0)) = some (.int .i64 e.a0) := id rfl
theorem eL1 (e : Ev) (g : Hp) : a0c tab g ty3 (.fptr ((evr e).drop 1)) = some (.int .i64 e.a1) := id rfl
theorem eL2 (e : Ev) (g : Hp) : a0c tab g ty3 (.fptr ((evr e).drop 2)) = some (.int .i64 e.a2) := id rfl
theorem eL3 (e : Ev) (g : Hp) : a0c tab g ty3 (.fptr ((evr e).drop 3)) = some (.int .i64 e.a3) := id rfl
theorem eL4 (e : Ev) (g : Hp) : a0c tab g a1u (.fptr ((evr e).drop 4)) = some e.ld := a8p _ _ _
theorem eL5 (e : Ev) (g : Hp) : a0c tab g ty3 (.fptr ((evr e).drop 5)) = some (.int .i64 e.a5) := id rfl
theorem eL6 (e : Ev) (g : Hp) : a0c tab g ty3 (.fptr ((evr e).drop 6)) = some (.int .i64 e.a6) := id rfl
theorem eL7 (e : Ev) (g : Hp) : a0c tab g ty9 (.fptr ((evr e).drop 7)) = some (.str e.s7) := id rfl
theorem eL8 (e : Ev) (g : Hp) : a0c tab g ty9 (.fptr ((evr e).drop 8)) = some (.str e.s8) := id rfl
theorem eL9 (e : Ev) (g : Hp) : a0c tab g a1c (.fptr ((evr e).drop 9)) = some e.fd := b4u _ _ _
theorem lF0 (l : Lin) : a0a tab a1A 0 (.fptr (a1p l)) = some (.fptr (a1p l)) := id rfl
theorem lF1 (l : Lin) : a0a tab a1A 1 (.fptr (a1p l)) = some (.fptr [.int .i64 l.len, .str l.txt]) := id rfl
theorem lF2 (l : Lin) : a0a tab a1A 2 (.fptr (a1p l)) = some (.fptr [.str l.txt]) := id rfl
theorem lL0 (l : Lin) (g : Hp) : a0c tab g ty3 (.fptr (a1p l)) = some (.int .i64 l.off) := id rfl
theorem fF0 (p : Str × Str) : a0a tab a0w 0 (.fptr (fld p)) = some (.fptr (fld p)) := id rfl
theorem fF1 (p : Str × Str) : a0a tab a0w 1 (.fptr (fld p)) = some (.fptr [.str p.2]) := id rfl
theorem fL0 (p : Str × Str) (g : Hp) : a0c tab g ty9 (.fptr (fld p)) = some (.str p.1) := id rfl
theorem a1r {α : Type} (f : α → List Int) {l : List α} {n : Nat} {x : α} (h : l[n]? = some x) : ((l.take (n + 1)).map f).flatten = ((l.take n).map f).flatten ++ f x := by
 rw [d5k, h]; simp [-bind_some]
theorem a5g {α : Type} (f : α → List Int) (l : List α) (n : Nat) : ((l.take n).map f).flatten.length ≤ (l.map f).flatten.length := by
 conv => rhs; rw [← List.take_append_drop n l, d5e, List.flatten_append, d5c]
 omega
theorem d1b (e : Ev) {n0 : Nat} {h0 h : Hp} {d0 d : D} {p : List Int} (B : Bw n0 h0 d0 h p d) (hn : n0 ≤ h.length) (hb : p.length + (e.ls.map lnB).flatten.length ≤ 900000000) (x : D) {β : Type} {K : Out → Option β} {Q : β → Prop}
  (k : ∀ d' h' a b, Bw n0 h0 d0 h' (p ++ (e.ls.map lnB).flatten) d' → n0 ≤ h'.length → Wp (K (.ext 0, [d', a, b], h')) Q) : Wp ((a0I (a8Q (.fptr (evr e))) [d, .int .i64 0, x] h).bind K) Q := by
 refine Wp.loop (fun k ds g => n0 ≤ g.length ∧ ∃ d' x, ∃ n : Nat, ds = [d', .int .i64 n, x] ∧ k + n = e.ls.length ∧ Bw n0 h0 d0 g (p ++ ((e.ls.take n).map lnB).flatten) d')
  (fun r => r.1 = .ext 0 ∧ n0 ≤ r.2.2.length ∧ (∃ d' a b, r.2.1 = [d', a, b] ∧ Bw n0 h0 d0 r.2.2 (p ++ (e.ls.map lnB).flatten) d')) e.ls.length ⟨hn, _, _, 0, rfl, rfl, by simpa using B⟩ ?_ ?_
 ·rintro k ds g ⟨hg, d', x, n, rfl, hk, B⟩
  have hll := e.hll
  simp only [a8Q, a0f, a0n, bs, d4X, eF4, eL4, a2G e.hld, a0j]
  refine Wp.dif ?_ ?_
  ·intro h0
   have h0 : n < e.ls.length := dl_ h0
   obtain ⟨l, hl⟩ := gx_ h0
   have hw := wi_ n (by omega)
   have hle := a5g lnB e.ls (n + 1)
   rw [a1r lnB hl, d5c] at hle
   have hln : (lnB l).length = 20 + l.txt.length := by simp [-bind_some, lnB, a1d, a1v]; omega
   have hix : a0b tab a1u e.ld (.int .i64 (n : Int)) = some (.fptr (a1p l)) := by rw [a9u e.hld]; simp [-bind_some, hl]
   simp only [hix, bs, lF0, lF1, lF2, lL0, ld3, ld9, a1D]
   refine a4B B hg l.off (by simp only [d5c, d5r, a1d, a1x, a1v, a1e]; omega) fun d1 g1 B1 n1 => ?_
   simp only [bs]
   refine a4B B1 n1 l.len (by simp only [d5c, d5r, a1d, a1x, a1v, a1e]; omega) fun d2 g2 B2 n2 => ?_
   simp only [bs]
   refine a6m B2 n2 l.txt (by simp only [d5c, d5r, a1d, a1x, a1v, a1e]; omega) fun d3 g3 B3 n3 => ?_
   simp only [bs, a1D, a0u, hw]
   refine .some (.inl ⟨rfl, k - 1, by omega, n3, _, _, n + 1, rfl, by omega, ?_⟩)
   rw [a1r lnB hl]
   simpa [-bind_some, lnB] using B3
  ·intro h0
   have h0 : n = e.ls.length := by
    have : ¬ (n : Int) < e.ls.length := by simpa using h0
    omega
   subst h0
   rw [d5x] at B
   exact .some (.inr ⟨by simp, rfl, hg, _, _, _, rfl, B⟩)
 ·rintro ⟨ex, ds, g⟩ ⟨rfl, q2, d', a, b, rfl, q3⟩
  exact k d' g a b q3 q2
theorem c8Z (e : Ev) {n0 : Nat} {h0 h : Hp} {d0 d : D} {p : List Int} (B : Bw n0 h0 d0 h p d) (hn : n0 ≤ h.length) (hb : p.length + (e.fs.map fdB).flatten.length ≤ 900000000) (x : D) {β : Type} {K : Out → Option β} {Q : β → Prop}
  (k : ∀ d' h' a b, Bw n0 h0 d0 h' (p ++ (e.fs.map fdB).flatten) d' → n0 ≤ h'.length → Wp (K (.ext 2, [d', a, b], h')) Q) : Wp ((a0I (a8R (.fptr (evr e))) [d, .int .i64 0, x] h).bind K) Q := by
 refine Wp.loop (fun k ds g => n0 ≤ g.length ∧ ∃ d' x, ∃ n : Nat, ds = [d', .int .i64 n, x] ∧ k + n = e.fs.length ∧ Bw n0 h0 d0 g (p ++ ((e.fs.take n).map fdB).flatten) d')
  (fun r => r.1 = .ext 2 ∧ n0 ≤ r.2.2.length ∧ (∃ d' a b, r.2.1 = [d', a, b] ∧ Bw n0 h0 d0 r.2.2 (p ++ (e.fs.map fdB).flatten) d')) e.fs.length ⟨hn, _, _, 0, rfl, rfl, by simpa using B⟩ ?_ ?_
 ·rintro k ds g ⟨hg, d', x, n, rfl, hk, B⟩
  have hll := e.hl
  simp only [a8R, a0f, a0n, bs, d4X, eF9, eL9, a1W e.hfd, a0j]
  refine Wp.dif ?_ ?_
  ·intro h0
   have h0 : n < e.fs.length := dl_ h0
   obtain ⟨l, hl⟩ := gx_ h0
   have hw := wi_ n (by omega)
   have hle := a5g fdB e.fs (n + 1)
   rw [a1r fdB hl, d5c] at hle
   have hln : (fdB l).length = 8 + l.1.length + l.2.length := by simp [-bind_some, fdB, a1v]; omega
   have hix : a0b tab a1c e.fd (.int .i64 (n : Int)) = some (.fptr (fld l)) := by rw [a7S e.hfd]; simp [-bind_some, hl]
   simp only [hix, bs, fF0, fF1, fL0, ld9, a1D]
   refine a6m B hg l.1 (by simp only [d5c, d5r, a1d, a1x, a1v, a1e]; omega) fun d1 g1 B1 n1 => ?_
   simp only [bs]
   refine a6m B1 n1 l.2 (by simp only [d5c, d5r, a1d, a1x, a1v, a1e]; omega) fun d3 g3 B3 n3 => ?_
   simp only [bs, a1D, a0u, hw]
   refine .some (.inl ⟨rfl, k - 1, by omega, n3, _, _, n + 1, rfl, by omega, ?_⟩)
   rw [a1r fdB hl]
   simpa [-bind_some, fdB] using B3
  ·intro h0
   have h0 : n = e.fs.length := by
    have : ¬ (n : Int) < e.fs.length := by simpa using h0
    omega
   subst h0
   rw [d5x] at B
   exact .some (.inr ⟨by simp, rfl, hg, _, _, _, rfl, B⟩)
 ·rintro ⟨ex, ds, g⟩ ⟨rfl, q2, d', a, b, rfl, q3⟩
  exact k d' g a b q3 q2
theorem d1y (i : It) (n0 : Nat) (h : Hp) (hn : n0 ≤ h.length) (hb : (a1S i).length ≤ 900000000) : ∃ d' h', R b3i [.agg (itr i)] h = some (d', h') ∧ Bw n0 h .nils h' (a1S i) d' := by
 suffices Wp (R b3i [.agg (itr i)] h) (fun p => Bw n0 h .nils p.2 (a1S i) p.1) by
  obtain ⟨⟨x, h'⟩, h1, h2⟩ := this
  exact ⟨x, h', h1, h2⟩
 have hbx : a6t 10 (.agg (evr i.e)) = some (.fptr (evr i.e)) := a3i 10 _ rfl
 have hbb := hb
 simp only [a1S, a4T, a3g, d5c, a1d, a1x, a1v] at hbb
 rw [c8s]
 simp only [c3N, a1b, bs, d4X, c1J, c0m, c1K, evL, hbx, eF0, eF1, eF2, eF3, eF4, eF5, eF6, eF7, eF8, eF9, eL0, eL1, eL2, eL3, eL4, eL5, eL6, eL7, eL8, eL9, a2G i.e.hld, a1W i.e.hfd, a2f, a1D]
 have B0 : Bw n0 h .nils h [] .nils := Bw.refl (Own.nils _ _ _ _)
 refine a6m B0 hn i.r (by simp only [d5c, d5r, a1d, a1x, a1v, a1e]; omega) fun d1 g1 B1 n1 => ?_
 simp only [bs]
 refine a4B B1 n1 _ (by simp only [d5c, d5r, a1d, a1x, a1v, a1e]; omega) fun d2 g2 B2 n2 => ?_
 simp only [bs]
 refine a4B B2 n2 _ (by simp only [d5c, d5r, a1d, a1x, a1v, a1e]; omega) fun d3 g3 B3 n3 => ?_
 simp only [bs]
 refine a4B B3 n3 _ (by simp only [d5c, d5r, a1d, a1x, a1v, a1e]; omega) fun d4 g4 B4 n4 => ?_
 simp only [bs]
 refine a4B B4 n4 _ (by simp only [d5c, d5r, a1d, a1x, a1v, a1e]; omega) fun d5 g5 B5 n5 => ?_
 simp only [bs, a1D]
 refine b7r B5 n5 _ (by simp only [d5c, d5r, a1d, a1x, a1v, a1e]; omega) fun d6 g6 B6 n6 => ?_
 simp only [bs]
 have hA : [] ++ pS i.r ++ pI i.e.a0 ++ pI i.e.a1 ++ pI i.e.a2 ++ pI i.e.a3 ++ a4l 4 (IntKind.wrap .u64 i.e.ls.length) = a3g i := by simp [-bind_some, a3g, pN]
 rw [hA] at B6
 have hAl : (a3g i).length = 4 + i.r.length + 36 := by simp [-bind_some, a3g, a1v, a1d, a1x]
 refine d1b i.e B6 n6 (by omega) _ fun d7 g7 a b B7 n7 => ?_
 simp only [bs, a0l, a0o, a0f]
 refine a4B B7 n7 _ (by simp only [d5c, d5r, a1d, a1x, a1v, a1e]; omega) fun d8 g8 B8 n8 => ?_
 simp only [bs]
 refine a4B B8 n8 _ (by simp only [d5c, d5r, a1d, a1x, a1v, a1e]; omega) fun d9 g9 B9 n9 => ?_
 simp only [bs]
 refine a6m B9 n9 _ (by simp only [d5c, d5r, a1d, a1x, a1v, a1e]; omega) fun d10 g10 B10 n10 => ?_
 simp only [bs]
 refine a6m B10 n10 _ (by simp only [d5c, d5r, a1d, a1x, a1v, a1e]; omega) fun d11 g11 B11 n11 => ?_
 simp only [bs, a1D]
 refine b7r B11 n11 _ (by simp only [d5c, d5r, a1d, a1x, a1v, a1e]; omega) fun d12 g12 B12 n12 => ?_
 simp only [bs]
 have hB : a3g i ++ (i.e.ls.map lnB).flatten ++ pI i.e.a5 ++ pI i.e.a6 ++ pS i.e.s7 ++ pS i.e.s8 ++ a4l 4 (IntKind.wrap .u64 i.e.fs.length) = a4T i := by simp [-bind_some, a4T, pN]
 rw [hB] at B12
 have hBl : (a4T i).length = (a3g i).length + (i.e.ls.map lnB).flatten.length + 16 + (4 + i.e.s7.length) + (4 + i.e.s8.length) + 4 := by simp only [a4T, d5c, a1d, a1v, a1x]
 refine c8Z i.e B12 n12 (by omega) _ fun d13 g13 a b B13 n13 => ?_
 simp only [bs, a0l, a0o, a0f, a0g]
 exact .some B13
def RdB (h : Hp) (l : List Int) (d : D) : Prop := SlOf 1 byr l d ∨ ∃ ob, d = .msl 1 ob 0 l.length ∧ h[ob]? = some (Ob.row ty5 1 (l.map byr))
theorem RdB.own {h : Hp} {n0 : Nat} {l : List Int} {d : D} (ow : Own h n0 ty5 1 (l.map byr) d) : RdB h l d := by
 rcases ow with ⟨rfl, hl⟩ | ⟨o, _, rfl, hg⟩
 ·exact .inl (.inl ⟨rfl, by simpa using hl⟩)
 ·exact .inr ⟨o, by simp, hg⟩
theorem a6n {h : Hp} {l : List Int} {d : D} (hd : RdB h l d) : a0y tab a0H d = some (.int .i64 l.length) := by
 rcases hd with hd | ⟨ob, rfl, _⟩
 ·exact a1l hd
 ·exact b6E _ _ _ _
theorem b7v {h : Hp} {l : List Int} {d : D} (hd : RdB h l d) (i : Nat) (z : Int) (hz : l[i]? = some z) : ∃ q, a0b tab a0H d (.int .i64 i) = some q ∧ a0c tab h ty5 q = some (.int .u8 z) := by
 rcases hd with hd | ⟨ob, rfl, ho⟩
 ·exact ⟨.fptr (byr z), by rw [a3X hd]; simp [-bind_some, hz], a7d z h⟩
 ·have hlt := (d5p.1 hz).1
  refine ⟨.ptr ob (0 + i) 0, by rw [b6x]; simp [-bind_some, hlt], ?_⟩
  rw [c6W, a0V ho, d5l]
  simp [-bind_some, hz, byr]
theorem a4b {h : Hp} {l : List Int} {d : D} (hd : RdB h l d) : a1C h 1 d = some (l.map byr) := by
 rcases hd with hd | ⟨ob, rfl, ho⟩
 ·rcases hd with ⟨rfl, rfl⟩ | ⟨b, rfl⟩
  ·rfl
  ·exact a1g _ _ _ _
 ·simp only [a1C, if_true, ho, List.drop_zero]
  rw [List.take_of_length_le (by simp)]
theorem RdB.keep {h h' : Hp} {l : List Int} {d : D} (hd : RdB h l d) (hk : ∀ (q T z : Nat) (rows : List (List D)), h[q]? = some (Ob.row T z rows) → h'[q]? = h[q]?) : RdB h' l d := by
 rcases hd with hd | ⟨ob, rfl, ho⟩
 ·exact .inl hd
 ·exact .inr ⟨ob, rfl, by rw [hk _ _ _ _ ho]; exact ho⟩
def a3K (l : List Int) : Int := l.foldl (fun c z => (c * 31 + z) % 4294967291) 1
theorem b0a {l : List Int} {n : Nat} {z : Int} (h : l[n]? = some z) : a3K (l.take (n + 1)) = (a3K (l.take n) * 31 + z) % 4294967291 := by
 unfold a3K
 rw [d5k, h]
 simp [-bind_some]
theorem a8c : ∀ (l : List Int), 0 ≤ a3K l ∧ a3K l < 4294967291 := by
 intro l
 unfold a3K
 generalize hc : (1 : Int) = c
 have h0 : 0 ≤ c ∧ c < 4294967291 := by omega
 clear hc
 induction l generalizing c with
 | nil => exact h0
 | cons z r ih =>
  simp only [List.foldl_cons]
  exact ih _ (by omega)
theorem c6k (l : List Int) (d : D) (h : Hp) (hdl : a0y tab a0H d = some (.int .i64 l.length)) (hdx : ∀ (i : Nat) (z : Int), l[i]? = some z → ∃ q, a0b tab a0H d (.int .i64 i) = some q ∧ a0c tab h ty5 q = some (.int .u8 z)) (hl : l.length ≤ 9223372036854775806) (hu : ∀ z ∈ l, U8 z) : R b0v [d] h = some (.int .u64 (a3K l), h) := by
 apply Wp.val
 rw [c8u]
 simp only [c3P, bs, d4X]
 refine Wp.loop (fun k ds g => g = h ∧ ∃ x, ∃ n : Nat, ds = [.int .u64 (a3K (l.take n)), .int .i64 n, x] ∧ k + n = l.length) (fun r => r.1 = .ext 0 ∧ r.2.2 = h ∧ ∃ a b, r.2.1 = [.int .u64 (a3K l), a, b]) l.length ⟨rfl, _, 0, rfl, rfl⟩ ?_ ?_
 ·rintro k ds g ⟨rfl, x, n, rfl, hk⟩
  simp only [b2u, a0f, a0n, bs, d4X, hdl, a0j]
  refine Wp.dif ?_ ?_
  ·intro h0
   have h0 : n < l.length := dl_ h0
   obtain ⟨z, hz⟩ := gx_ h0
   have hzu := hu z (d5m hz)
   obtain ⟨q, q1, q2⟩ := hdx n z hz
   have hr := a8c (l.take n)
   have hw := wi_ n (by omega)
   unfold U8 at hzu
   have w1 : IntKind.wrap .u64 (a3K (l.take n) * 31) = a3K (l.take n) * 31 := a1j (by omega) (by omega)
   have w2 : IntKind.wrap .u64 z = z := a1j (by omega) (by omega)
   have w3 : IntKind.wrap .u64 (a3K (l.take n) * 31 + z) = a3K (l.take n) * 31 + z := a1j (by omega) (by omega)
   have w4 : (a3K (l.take n) * 31 + z).tmod 4294967291 = a3K (l.take (n + 1)) := by
    rw [b0a hz, Int.tmod_eq_emod_of_nonneg (by omega)]
   simp only [a3j, w1, q1, q2, a5B, w2, a0u, w3, bs, a3R, show ¬ ((4294967291 : Int) = 0) by omega, if_false, w4, hw]
   exact .some (.inl ⟨rfl, k - 1, by omega, rfl, _, n + 1, rfl, by omega⟩)
  ·intro h0
   have h0 : n = l.length := by
    have : ¬ (n : Int) < l.length := by simpa using h0
    omega
   subst h0
   rw [d5x]
   exact .some (.inr ⟨by simp, rfl, rfl, _, _, rfl⟩)
 ·rintro ⟨ex, ds, g⟩ ⟨rfl, q2, a, b, rfl⟩
  simp only at q2
  subst q2
  simp only [a0l, a0o, bs, a0f, a0g]
  exact .some rfl
theorem c6j (l : List Int) (d : D) (h : Hp) (hd : RdB h l d) (hl : l.length ≤ 9223372036854775806) (hu : ∀ z ∈ l, U8 z) : R b0v [d] h = some (.int .u64 (a3K l), h) := c6k l d h (a6n hd) (fun i z hz => b7v hd i z hz) hl hu
theorem b8B (i : It) : ∀ z ∈ a1S i, U8 z := by
 have hI : ∀ n, ∀ z ∈ pI n, U8 z := fun n => a4C _ _
 have hN : ∀ n, ∀ z ∈ pN n, U8 z := fun n => a4C _ _
 have hS : ∀ s, ∀ z ∈ pS s, U8 z := fun s z hz => by
  rcases d5v.1 hz with h | h
  ·exact hN _ z h
  ·exact c6s _ z h
 intro z hz
 simp only [a1S, a4T, a3g, d5v, List.mem_flatten, d5w] at hz
 rcases hz with ((((((((((((h | h) | h) | h) | h) | h) | ⟨_, ⟨l, _, rfl⟩, h⟩) | h) | h) | h) | h) | h)) | ⟨_, ⟨l, _, rfl⟩, h⟩
 ·exact hS _ z h
 ·exact hI _ z h
 ·exact hI _ z h
 ·exact hI _ z h
 ·exact hI _ z h
 ·exact hN _ z h
 ·simp only [lnB, d5v] at h
  rcases h with (h | h) | h
  ·exact hI _ z h
  ·exact hI _ z h
  ·exact hS _ z h
 ·exact hI _ z h
 ·exact hI _ z h
 ·exact hS _ z h
 ·exact hS _ z h
 ·exact hN _ z h
 ·simp only [fdB, d5v] at h
  rcases h with h | h
  ·exact hS _ z h
  ·exact hS _ z h
def a6E (i : It) : List Int := a4l 4 (IntKind.wrap .u64 (((a1S i).length : Int) + 4)) ++ a1S i
def a3L (i : It) : List Int := a6E i ++ a4l 4 (a3K (a6E i))
theorem b1t (i : It) : ∀ z ∈ a6E i, U8 z := fun z hz => by
 rcases d5v.1 hz with h | h
 ·exact a4C _ _ z h
 ·exact b8B i z h
theorem c1z (i : It) : ∀ z ∈ a3L i, U8 z := fun z hz => by
 rcases d5v.1 hz with h | h
 ·exact b1t i z h
 ·exact a4C _ _ z h
theorem a3S (i : It) : (a3L i).length = (a1S i).length + 8 := by
 simp only [a3L, a6E, d5c, a1e]; omega
theorem d0X (i : It) (h : Hp) : a0c tab h a0D (.fptr (itr i)) = some (.agg (itr i)) := id rfl
theorem d1x (i : It) (c : Int) (h : Hp) (hc : ∀ g, R a7r [.agg (itr i)] g = some (.int .i64 c, g)) (hb : (a1S i).length ≤ 900000000) : ∃ d', R b3h [.agg (itr i)] h = some (.tup [d', .int .i64 c], h) ∧ SlOf 1 byr (if c = 0 then a3L i else []) d' := by
 suffices Wp (R b3h [.agg (itr i)] h) (fun p => p.2 = h ∧ ∃ d', p.1 = .tup [d', .int .i64 c] ∧ SlOf 1 byr (if c = 0 then a3L i else []) d') by
  obtain ⟨⟨x, h'⟩, h1, rfl, d', rfl, h2⟩ := this
  exact ⟨d', h1, h2⟩
 rw [c8r]
 simp only [c3M, a1b, bs, d4X, d0X, hc, a0t]
 refine Wp.dif ?_ ?_
 ·intro h0
  have h0 : ¬ c = 0 := by simpa using h0
  simp only [bs, a0S]
  rw [a1i (d' := .tup [.nils, .int .i64 c]) (by simp) (.tup _ fun d hd => by simp at hd; rcases hd with rfl | rfl <;> constructor) (Nat.le_refl _) fun _ _ => rfl]
  exact .some ⟨rfl, _, rfl, by rw [if_neg h0]; exact .nils _ _⟩
 ·intro h0
  have h0 : c = 0 := by simpa using h0
  subst h0
  obtain ⟨d1, h1, e1, B1⟩ := d1y i h.length h (Nat.le_refl _) hb
  have w1 : IntKind.wrap .i64 (((a1S i).length : Int) + 4) = ((a1S i).length : Int) + 4 := wrap_i64 (by omega) (by omega)
  have r1 := RdB.own B1.ow
  refine Wp.step e1 ?_
  simp only [bs, a6n r1, a0u, w1, a2f]
  obtain ⟨d2, h2, e2, B2⟩ := b7L (IntKind.wrap .u64 (((a1S i).length : Int) + 4)) 4 (by omega) h1.length h1 [] .nils (Nat.le_refl _) (Own.nils _ _ _ _) (by simp)
  have e2 : R a3A [.nils, .int .u64 (IntKind.wrap .u64 (((a1S i).length : Int) + 4)), .int .i64 4] h1 = some (d2, h2) := e2
  refine Wp.step e2 ?_
  simp only [bs]
  have r2 : RdB h2 (a1S i) d1 := by
   rcases B1.ow with ⟨hx, hl⟩ | ⟨o, ho, hx, hg⟩
   ·exact .inl (.inl ⟨hx, by simpa using hl⟩)
   ·refine .inr ⟨o, by rw [hx]; simp [-bind_some], ?_⟩
    have holt := (d5p.1 hg).1
    rw [B2.old o holt (fun hh => by obtain ⟨z, n, hh⟩ := hh; cases hh)]
    exact hg
  have ow2 : Own h2 h.length ty5 1 ((([] : List Int) ++ a4l 4 (IntKind.wrap .u64 (((a1S i).length : Int) + 4))).map byr) d2 := B2.ow.from B1.len
  obtain ⟨d3, h3, e3, B3⟩ := b3Z (Nat.le_trans B1.len B2.len) ow2 (a4b r2) (by simp only [d5c, d5r, a1e]; omega)
  refine Wp.step e3 ?_
  simp only [bs]
  have hH : [] ++ a4l 4 (IntKind.wrap .u64 (((a1S i).length : Int) + 4)) ++ a1S i = a6E i := by simp [-bind_some, a6E]
  rw [hH] at B3
  have hHl : (a6E i).length = 4 + (a1S i).length := by simp only [a6E, d5c, a1e]
  have e4 := c6j (a6E i) d3 h3 (RdB.own B3.ow) (by omega) (b1t i)
  refine Wp.step e4 ?_
  simp only [bs]
  have hn3 : h.length ≤ h3.length := Nat.le_trans (Nat.le_trans B1.len B2.len) B3.len
  obtain ⟨d5, h5, e5, B5⟩ := b7L (a3K (a6E i)) 4 (by omega) h.length h3 (a6E i) d3 hn3 B3.ow (by omega)
  have e5 : R a3A [d3, .int .u64 (a3K (a6E i)), .int .i64 4] h3 = some (d5, h5) := e5
  refine Wp.step e5 ?_
  have hE : a6E i ++ a4l 4 (a3K (a6E i)) = a3L i := rfl
  rw [hE] at B5
  simp only [bs, a0S]
  have hsl := a2C (n0 := h.length) (n := 2) B5.ow (Nat.le_refl _) (fun a _ => a5d _ h5 2 a)
  have hlow : ∀ q, q < h.length → h5[q]? = h[q]? := fun q hq => by
   have nd : ∀ {d : D} {g : Hp} {l : List Int}, Own g h.length ty5 1 (l.map byr) d → ¬ d.inOb q := fun ow hx => by have := (ow.lt hx).1; omega
   rw [B5.old q (by omega) (nd B3.ow), B3.old q (by have := B1.len; have := B2.len; omega) (nd ow2), B2.old q (by have := B1.len; omega) (fun hh => by obtain ⟨z, n, hh⟩ := hh; cases hh),
    B1.old q hq (fun hh => by obtain ⟨z, n, hh⟩ := hh; cases hh)]
  rw [a1i (d' := .tup [frz h.length h5 3 d5, .int .i64 0]) (by simp) (by
   refine .tup _ fun d hd => ?_
   simp at hd
   rcases hd with rfl | rfl
   ·exact a2e hsl fun a _ => a7X _ a
   ·constructor) (Nat.le_trans hn3 B5.len) hlow]
  exact .some ⟨rfl, _, rfl, by simpa using hsl⟩
theorem a2N {α : Type} (f : α → List Int) (m : Nat) : ∀ (l : List α), (∀ a ∈ l, (f a).length ≤ m) → (l.map f).flatten.length ≤ l.length * m
 | [], _ => by simp
 | a :: l, h => by
  have h1 := h a (by simp)
  have h2 := a2N f m l fun b hb => h b (by simp [-bind_some, hb])
  simp only [d5f, List.flatten_cons, d5c, d5q, Nat.succ_mul]
  omega
theorem a9Y : ∀ (ls : List Lin) (a b : Int), chain a ls b → ∀ l ∈ ls, l.txt.length ≤ 36
 | [], a, b, _, l, hl => by cases hl
 | x :: r, a, b, h, l, hl => by
  unfold chain at h
  rcases d5u.1 hl with rfl | hl
  ·have h1 := h.2.2.1; have h2 := h.2.2.2.1; omega
  ·exact a9Y r _ _ h.2.2.2.2 l hl
theorem b4W {host : Int} {i : It} (h : BIt host i) : (a1S i).length ≤ 20000 := by
 have h1 := a2N lnB 56 i.e.ls (fun l hl => by
  have := a9Y _ _ _ h.ch l hl
  simp only [lnB, d5c, a1d, a1v]; omega)
 have h2 : (i.e.fs.map fdB).flatten.length ≤ i.e.fs.length * 3008 := a2N fdB 3008 i.e.fs (fun p hp => by
  rcases h.good with ⟨_, hg⟩ | hg
  ·have a1 := (hg.fn p hp).2
   have a2 := hg.fv p hp
   simp only [fdB, d5c, a1v]; omega
  ·rw [hg.fs] at hp; cases hp)
 have h3 := h.n6
 have h4 := h.fs
 have h5 : i.r.length ≤ 32 ∧ i.e.s7.length ≤ 32 ∧ i.e.s8.length ≤ 32 := by
  rcases h.good with ⟨hr, hg⟩ | hg
  ·exact ⟨by rw [hr]; simp [-bind_some], hg.tr, hg.st⟩
  ·exact ⟨hg.r3, by rw [hg.tr]; simp [-bind_some], by rw [hg.st]; simp [-bind_some]⟩
 obtain ⟨h5, h6, h7⟩ := h5
 have h8 : (i.e.fs.length * 3008 : Nat) ≤ 4 * 3008 := Nat.mul_le_mul_right _ h4
 have h9 : (i.e.ls.length * 56 : Nat) ≤ 6 * 56 := Nat.mul_le_mul_right _ h3
 simp only [a1S, a4T, a3g, d5c, a1d, a1v, a1x]
 omega
theorem c0y (w x b k : Nat) (hb : b < 2 ^ k) (hx : x * 2 ^ k + b < 2 ^ w) : (BitVec.ofInt w ((x * 2 ^ k : Nat) : Int) ||| BitVec.ofInt w (b : Int)).toNat = x * 2 ^ k + b := by
 rw [BitVec.ofInt_natCast, BitVec.ofInt_natCast, BitVec.toNat_or, BitVec.toNat_ofNat, BitVec.toNat_ofNat, Nat.mod_eq_of_lt (by omega), Nat.mod_eq_of_lt (by omega)]
 rw [← Nat.shiftLeft_eq, ← Nat.shiftLeft_add_eq_or_of_lt hb, Nat.shiftLeft_eq]
theorem b7j {x b : Int} (k : Nat) (h0 : 0 ≤ x) (hb0 : 0 ≤ b) (hb : b < 2 ^ k) (hx : x * 2 ^ k + b < 4294967296) : IntKind.wrap .u32 (BitVec.ofInt IntKind.u32.bits (x * 2 ^ k) ||| BitVec.ofInt IntKind.u32.bits b).toNat = x * 2 ^ k + b := by
 obtain ⟨X, rfl⟩ := Int.eq_ofNat_of_zero_le h0
 obtain ⟨B, rfl⟩ := Int.eq_ofNat_of_zero_le hb0
 have e : ((X : Int) * 2 ^ k) = ((X * 2 ^ k : Nat) : Int) := by push_cast; rfl
 have hB : B < 2 ^ k := by exact_mod_cast hb
 have hX : X * 2 ^ k + B < 2 ^ IntKind.u32.bits := by
  have h2 : (2 : Nat) ^ IntKind.u32.bits = 4294967296 := by decide
  rw [h2]
  rw [e] at hx
  generalize X * 2 ^ k = Y at hx
  omega
 have := c0y IntKind.u32.bits X B k hB hX
 rw [e, a5p, this]
 push_cast; rfl
theorem b8k (x : BitVec IntKind.u64.bits) : IntKind.wrap .u64 (x.toNat : Int) = x.toNat := by
 have := x.isLt
 have h2 : (2 : Nat) ^ IntKind.u64.bits = 18446744073709551616 := by decide
 exact a1j (by omega) (by omega)
theorem b3F {x b : Int} (k : Nat) (h0 : 0 ≤ x) (hb0 : 0 ≤ b) (hb : b < 2 ^ k) (hx : x * 2 ^ k + b < 18446744073709551616) : IntKind.wrap .u64 (BitVec.ofInt IntKind.u64.bits (x * 2 ^ k) ||| BitVec.ofInt IntKind.u64.bits b).toNat = x * 2 ^ k + b := by
 obtain ⟨X, rfl⟩ := Int.eq_ofNat_of_zero_le h0
 obtain ⟨B, rfl⟩ := Int.eq_ofNat_of_zero_le hb0
 have e : ((X : Int) * 2 ^ k) = ((X * 2 ^ k : Nat) : Int) := by push_cast; rfl
 have hB : B < 2 ^ k := by exact_mod_cast hb
 have hX : X * 2 ^ k + B < 2 ^ IntKind.u64.bits := by
  have h2 : (2 : Nat) ^ IntKind.u64.bits = 18446744073709551616 := by decide
  rw [h2]
  rw [e] at hx
  generalize X * 2 ^ k = Y at hx
  omega
 have := c0y IntKind.u64.bits X B k hB hX
 rw [e, b8k, this]
 push_cast; rfl
theorem d1w (a b c e : Int) (d : D) (h : Hp) (hd : SlOf 1 byr [a, b, c, e] d) (ha : U8 a) (hb : U8 b) (hc : U8 c) (he : U8 e) : R a7v [d] h = some (.int .u32 (num [a, b, c, e]), h) := by
 rw [c4N]
 unfold U8 at ha hb hc he
 have q : ∀ z : Int, 0 ≤ z ∧ z < 256 → IntKind.wrap .u32 z = z := fun z hz => a3q hz.1 (by omega)
 have m1 : min ((24 : Int).toNat) IntKind.u32.bits = 24 := by decide
 have m2 : min ((16 : Int).toNat) IntKind.u32.bits = 16 := by decide
 have m3 : min ((8 : Int).toNat) IntKind.u32.bits = 8 := by decide
 have p1 : (2 : Int) ^ 24 = 16777216 := by decide
 have p2 : (2 : Int) ^ 16 = 65536 := by decide
 have p3 : (2 : Int) ^ 8 = 256 := by decide
 have w1 : IntKind.wrap .u32 (a * 2 ^ 24) = (a * 256) * 2 ^ 16 := by rw [p1, p2, a3q (by omega) (by omega)]; omega
 have w2 : IntKind.wrap .u32 (b * 2 ^ 16) = b * 2 ^ 16 := by rw [p2]; exact a3q (by omega) (by omega)
 have w3 : IntKind.wrap .u32 (c * 2 ^ 8) = c * 2 ^ 8 := by rw [p3]; exact a3q (by omega) (by omega)
 have o1 : IntKind.wrap .u32 (BitVec.ofInt IntKind.u32.bits ((a * 256) * 2 ^ 16) ||| BitVec.ofInt IntKind.u32.bits (b * 2 ^ 16)).toNat = ((a * 256 + b) * 256) * 2 ^ 8 := by
  have e1 : (a * 256) * 2 ^ 16 = a * 2 ^ 24 := by rw [p1, p2]; omega
  rw [e1, b7j 24 ha.1 (by rw [p2]; omega) (by rw [p1, p2]; omega) (by rw [p1, p2]; omega), p1, p2, p3]
  omega
 have o2 : IntKind.wrap .u32 (BitVec.ofInt IntKind.u32.bits (((a * 256 + b) * 256) * 2 ^ 8) ||| BitVec.ofInt IntKind.u32.bits (c * 2 ^ 8)).toNat = ((a * 256 + b) * 256 + c) * 2 ^ 8 := by
  have e1 : ((a * 256 + b) * 256) * 2 ^ 8 = (a * 256 + b) * 2 ^ 16 := by rw [p3, p2]; omega
  rw [e1, b7j 16 (by omega) (by rw [p3]; omega) (by rw [p2, p3]; omega) (by rw [p2, p3]; omega), p2, p3]
  omega
 have o3 : IntKind.wrap .u32 (BitVec.ofInt IntKind.u32.bits (((a * 256 + b) * 256 + c) * 2 ^ 8) ||| BitVec.ofInt IntKind.u32.bits e).toNat = num [a, b, c, e] := by
  rw [b7j 8 (by omega) (by omega) (by rw [p3]; omega) (by rw [p3]; omega), d4z, p3]
 have i0 : a0b tab a0H d (.int .i64 0) = some (.fptr (byr a)) := by rw [a3X hd]; rfl
 have i1 : a0b tab a0H d (.int .i64 1) = some (.fptr (byr b)) := by rw [a3X hd]; rfl
 have i2 : a0b tab a0H d (.int .i64 2) = some (.fptr (byr c)) := by rw [a3X hd]; rfl
 have i3 : a0b tab a0H d (.int .i64 3) = some (.fptr (byr e)) := by rw [a3X hd]; rfl
 simp only [b8u, bs, i0, i1, i2, i3, a7d, b5j, q a ha, q b hb, q c hc, q e he, a5C, show ¬ (24 : Int) < 0 by omega, show ¬ (16 : Int) < 0 by omega, show ¬ (8 : Int) < 0 by omega, if_false, m1, m2, m3, w1, w2, w3, a7j, o1, o2, o3, a0g]
theorem a4Q {l : List Int} {n : Nat} {z : Int} (h : l[n]? = some z) : num (l.take (n + 1)) = num (l.take n) * 256 + z := by
 unfold num
 rw [d5k, h]
 simp [-bind_some]
theorem c2l (l : List Int) (d : D) (h : Hp) (hd : SlOf 1 byr l d) (hl : l.length ≤ 8) (hu : ∀ z ∈ l, U8 z) : R a6y [d] h = some (.int .u64 (num l), h) := by
 apply Wp.val
 rw [c8p]
 simp only [c3K, bs, d4X]
 refine Wp.loop (fun k ds g => g = h ∧ ∃ x, ∃ n : Nat, ds = [.int .u64 (num (l.take n)), .int .i64 n, x] ∧ k + n = l.length ∧ 0 ≤ num (l.take n) ∧ num (l.take n) < 256 ^ n) (fun r => r.1 = .ext 0 ∧ r.2.2 = h ∧ ∃ a b, r.2.1 = [.int .u64 (num l), a, b]) l.length ⟨rfl, _, 0, rfl, rfl, by simp [-bind_some, num], by simp [-bind_some, num]⟩ ?_ ?_
 ·rintro k ds g ⟨rfl, x, n, rfl, hk, hn0, hn1⟩
  simp only [b2r, a0f, a0n, bs, d4X, a1l hd, a0j]
  refine Wp.dif ?_ ?_
  ·intro h0
   have h0 : n < l.length := dl_ h0
   obtain ⟨z, hz⟩ := gx_ h0
   have hzu := hu z (d5m hz)
   have hw := wi_ n (by omega)
   unfold U8 at hzu
   have hb : num (l.take n) < 72057594037927936 := by
    have : n = 0 ∨ n = 1 ∨ n = 2 ∨ n = 3 ∨ n = 4 ∨ n = 5 ∨ n = 6 ∨ n = 7 := by omega
    rcases this with rfl | rfl | rfl | rfl | rfl | rfl | rfl | rfl <;> omega
   have m3 : min ((8 : Int).toNat) IntKind.u64.bits = 8 := by decide
   have p3 : (2 : Int) ^ 8 = 256 := by decide
   have w1 : IntKind.wrap .u64 (num (l.take n) * 2 ^ 8) = num (l.take n) * 2 ^ 8 := by rw [p3]; exact a1j (by omega) (by omega)
   have w2 : IntKind.wrap .u64 z = z := a1j (by omega) (by omega)
   have w3 := b3F (x := num (l.take n)) (b := z) 8 hn0 (by omega) (by rw [p3]; omega) (by rw [p3]; omega)
   have hii : a0b tab a0H d (.int .i64 (n : Int)) = some (.fptr (byr z)) := by rw [a3X hd]; simp [-bind_some, hz]
   rw [p3, ← a4Q hz] at w3
   rw [p3] at w1
   simp only [a5C, show ¬ (8 : Int) < 0 by omega, if_false, m3, p3, w1, hii, a7d, a5B, w2, a7j, w3, bs, a0u, hw]
   refine .some (.inl ⟨rfl, k - 1, by omega, rfl, _, n + 1, rfl, by omega, ?_, ?_⟩)
   ·rw [a4Q hz]; omega
   ·rw [a4Q hz, Int.pow_succ]; omega
  ·intro h0
   have h0 : n = l.length := by
    have : ¬ (n : Int) < l.length := by simpa using h0
    omega
   subst h0
   rw [d5x]
   exact .some (.inr ⟨by simp, rfl, rfl, _, _, rfl⟩)
 ·rintro ⟨ex, ds, g⟩ ⟨rfl, q2, a, b, rfl⟩
  simp only at q2
  subst q2
  simp only [a0l, a0o, bs, a0f, a0g]
  exact .some rfl
theorem c6f (a n : Int) (h : Hp) (hn : n ≤ 1000000000) : ∃ r, R b5Z [.int .i64 a, .int .i64 n] h = some (.int .i64 r, h) ∧ 0 ≤ r ∧ (1 ≤ n → r < n) ∧ (n < 1 → r = 0) := by
 rw [c8j]
 by_cases h1 : n < 1
 ·exact ⟨0, by simp [-bind_some, c1a, h1], by omega, by omega, fun _ => rfl⟩
 ·have p1 : (a.tmod n).natAbs < n.natAbs := by
    have := Int.natAbs_tmod a n
    rw [this]
    exact Nat.mod_lt _ (by omega)
  have w : IntKind.wrap .i64 (a.tmod n + n) = a.tmod n + n := wrap_i64 (by omega) (by omega)
  have h0 : ¬ n = 0 := by omega
  refine ⟨(a.tmod n + n).tmod n, by simp [-bind_some, c1a, h1, h0, w], Int.tmod_nonneg _ (by omega), fun _ => Int.tmod_lt_of_pos _ (by omega), by omega⟩
theorem a7h {l : List Int} {d : D} (hd : SlOf 1 byr l d) (a b : Nat) (hab : a ≤ b) (hb : b ≤ l.length) : ∃ d', a0G tab a0H true true false [d, .int .i64 a, .int .i64 b] = some d' ∧ SlOf 1 byr ((l.take b).drop a) d' := by
 have t1 : tab a0H = some ti22 := id rfl
 have t2 : ti22.td = .sl ty5 := id rfl
 have t3 : tab ty5 = some ti5 := id rfl
 have t4 : ti5.sz = 1 := id rfl
 simp only [a0G, a2R, bs, a2w, t1, t2, t3]
 rcases hd with ⟨rfl, rfl⟩ | ⟨f, rfl⟩
 ·have : b = 0 := by simpa using hb
  subst this
  have : a = 0 := by omega
  subst this
  exact ⟨_, rfl, .inl ⟨rfl, rfl⟩⟩
 ·have h1 : (a : Int) ≤ b := by omega
  have h2 : (b : Int) ≤ l.length := by omega
  simp [-bind_some, t4, h1, h2, hb, hab]
  exact .inr ⟨_, by rw [List.map_drop, List.map_take]⟩
theorem a8r (q : Nat) : ¬ D.inOb .nils q := fun hh => by obtain ⟨z, n, hh⟩ := hh; cases hh
theorem a3l {h : Hp} {n0 e z : Nat} {rows : List (List D)} {d : D} (ow : Own h n0 e z rows d) {q : Nat} (hq : d.inOb q) : h[q]? = some (.row e z rows) := by
 obtain ⟨z', n, rfl⟩ := hq
 rcases ow with ⟨hd, _⟩ | ⟨o, ho, hd, hg⟩
 ·cases hd
 ·injection hd with _ h2
  subst h2
  exact hg
theorem b7k {h : Hp} {n n' e e' z z' : Nat} {rows rows' : List (List D)} {d d' : D} (a : Own h n e z rows d) (b : Own h n' e' z' rows' d') (hne : e ≠ e') {q : Nat} (hq : d.inOb q) : ¬ d'.inOb q := fun hx => by
 have h1 := a3l a hq
 have h2 := a3l b hx
 rw [h1] at h2
 injection h2 with h2
 injection h2 with h3
 exact hne h3
theorem d0W (v : Int) (n0 : Nat) : ∀ (k : Nat), k ≤ 8 → ∀ (h : Hp) (l : List Int) (d a : D), n0 ≤ h.length → Own h n0 ty5 1 (l.map byr) d → l.length + k ≤ 1000000000 → ∃ d' h' b, a0I (a6M (.int .u64 v)) [d, .int .i64 (8 * ((k : Int) - 1)), a] h = some (.ext 0, [d', b, .bool false], h') ∧ Bw n0 h d h' (l ++ a4l k v) d' := by
 intro k
 induction k with
 | zero =>
  intro _ h l d a hn ow hr
  rw [a1F]
  refine ⟨d, h, _, by simp [-bind_some, a6M]; rfl, ?_⟩
  simpa [-bind_some, a4l] using Bw.refl ow
 | succ k ih =>
  intro hk h l d a hn ow hr
  have hg : (0 : Int) ≤ 8 * (((k + 1 : Nat) : Int) - 1) := by omega
  have hw1 : 8 * (((k + 1 : Nat) : Int) - 1) = 8 * (k : Int) := by omega
  have hw2 : IntKind.wrap .i64 (8 * (k : Int) - 8) = 8 * ((k : Int) - 1) := by rw [wrap_i64 (by omega) (by omega)]; omega
  have h8 : ¬ (8 * (k : Int)) < 0 := by omega
  have hmn : min (8 * (k : Int)).toNat IntKind.u64.bits = 8 * k := by
   have : IntKind.u64.bits = 64 := rfl
   rw [this]; omega
  obtain ⟨x', g, e1, B1⟩ := b3Z (y := .sl 1 true [byr (IntKind.wrap .u8 (v.fdiv (2 ^ (8 * k))))]) (m := [IntKind.wrap .u8 (v.fdiv (2 ^ (8 * k)))]) hn ow (a1g _ _ _ _) (by simp; omega)
  obtain ⟨d', h', b, e2, B2⟩ := ih (by omega) g _ x' (.bool true) (Nat.le_trans hn B1.len) B1.ow (by simp; omega)
  refine ⟨d', h', b, ?_, ?_⟩
  ·rw [a1F]
   rw [hw1] at hg ⊢
   simp only [a6M, a0f, a0n, bs, a2U, decide_eq_true hg, a0d, if_true, a2n, h8, if_false, hmn, a6P, b2G, show ∀ z, ([[D.int .u8 z]] : List (List D)) = [byr z] from fun _ => rfl, e1, a0B, hw2]
   exact e2
  ·have := B1.trans B2
   simpa [-bind_some, a4l] using this
theorem b7M (v : Int) (k : Nat) (hk : k ≤ 8) (n0 : Nat) (h : Hp) (l : List Int) (d : D) (hn : n0 ≤ h.length) (ow : Own h n0 ty5 1 (l.map byr) d) (hr : l.length ≤ 999999000) : ∃ d' h', R a4h [d, .int .u64 v, .int .i64 k] h = some (d', h') ∧ Bw n0 h d h' (l ++ a4l k v) d' := by
 obtain ⟨d', h', b, e1, B⟩ := d0W v n0 k hk h l d .any hn ow (by omega)
 refine ⟨d', h', ?_, B⟩
 rw [c8A]
 have hw : IntKind.wrap .i64 ((k : Int) - 1) = (k : Int) - 1 := by rw [wrap_i64 (by omega) (by omega)]
 have hw2 : IntKind.wrap .i64 (8 * ((k : Int) - 1)) = 8 * ((k : Int) - 1) := by rw [wrap_i64 (by omega) (by omega)]
 simp only [c3V, bs, a0B, hw, a3j, hw2, d4X, e1, a0l, a0o, a0f, a0g]
theorem c6l (l : List Int) (d : D) (h : Hp) (hd : RdB h l d) (hl : l.length ≤ 9223372036854775806) (hu : ∀ z ∈ l, U8 z) : R b3k [d] h = some (.int .u64 (a3K l), h) := by
 apply Wp.val
 rw [c8B]
 simp only [c3W, bs, d4X, a6n hd]
 refine Wp.loop (fun k ds g => g = h ∧ ∃ x y, ∃ n : Nat, ds = [.int .u64 (a3K (l.take n)), x, .int .i64 n, y] ∧ k + n = l.length) (fun r => r.1 = .ext 0 ∧ r.2.2 = h ∧ ∃ a b c, r.2.1 = [.int .u64 (a3K l), a, b, c]) l.length ⟨rfl, _, _, 0, rfl, rfl⟩ ?_ ?_
 ·rintro k ds g ⟨rfl, x, y, n, rfl, hk⟩
  simp only [b2v, a0f, a0n, bs, d4X, a0j]
  refine Wp.dif ?_ ?_
  ·intro h0
   have h0 : n < l.length := dl_ h0
   obtain ⟨z, hz⟩ := gx_ h0
   have hzu := hu z (d5m hz)
   obtain ⟨q, q1, q2⟩ := b7v hd n z hz
   have hr := a8c (l.take n)
   have hw := wi_ n (by omega)
   unfold U8 at hzu
   have w1 : IntKind.wrap .u64 (a3K (l.take n) * 31) = a3K (l.take n) * 31 := a1j (by omega) (by omega)
   have w2 : IntKind.wrap .u64 z = z := a1j (by omega) (by omega)
   have w3 : IntKind.wrap .u64 (a3K (l.take n) * 31 + z) = a3K (l.take n) * 31 + z := a1j (by omega) (by omega)
   have w4 : (a3K (l.take n) * 31 + z).tmod 4294967291 = a3K (l.take (n + 1)) := by
    rw [b0a hz, Int.tmod_eq_emod_of_nonneg (by omega)]
   simp only [a3j, w1, q1, q2, a5B, w2, a0u, w3, bs, a3R, show ¬ ((4294967291 : Int) = 0) by omega, if_false, w4, hw]
   exact .some (.inl ⟨rfl, k - 1, by omega, rfl, _, _, n + 1, rfl, by omega⟩)
  ·intro h0
   have h0 : n = l.length := by
    have : ¬ (n : Int) < l.length := by simpa using h0
    omega
   subst h0
   rw [d5x]
   exact .some (.inr ⟨by simp, rfl, rfl, _, _, _, rfl⟩)
 ·rintro ⟨ex, ds, g⟩ ⟨rfl, q2, a, b, c, rfl⟩
  simp only at q2
  subst q2
  simp only [a0l, a0o, bs, a0f, a0g]
  exact .some rfl
structure WrS (n0 oi ow : Nat) (h0 : Hp) (it : List D) (g : Hp) (l : List Int) : Prop where
 hi : g[oi]? = some (.row a0D 11 [it])
 hw : ∃ d, g[ow]? = some (.row a2j 1 [[d]]) ∧ Own g n0 ty5 1 (l.map byr) d
 lo : ∀ q, q < n0 → g[q]? = h0[q]?
 ln : n0 ≤ g.length
theorem ldw {g : Hp} {ow : Nat} {d : D} (h : g[ow]? = some (.row a2j 1 [[d]])) : a0c tab g a0H (.ptr ow 0 (0 + 0)) = some d := by rw [b9o, a0V h]; rfl
theorem WrS.put {n0 oi ow : Nat} {h0 : Hp} {it : List D} {g g' : Hp} {l l' : List Int} {d d' : D} (s : WrS n0 oi ow h0 it g l) (hn : n0 ≤ ow) (hw : g[ow]? = some (.row a2j 1 [[d]])) (hb : Own g n0 ty5 1 (l.map byr) d) (B : Bw n0 g d g' l' d') {β : Type} {f : Hp → Option β} {Q : β → Prop}
  (k : ∀ g2, WrS n0 oi ow h0 it g2 l' → Wp (f g2) Q) : Wp ((a0h tab g' a0H (.ptr ow 0 (0 + 0)) d').bind f) Q := by
 have hnd : ∀ {q T z : Nat} {rows : List (List D)}, g[q]? = some (.row T z rows) → T ≠ ty5 → ¬ d.inOb q := fun hq hT hx => by
  have := a3l hb hx
  rw [hq] at this
  injection this with this
  injection this with h1
  exact hT h1
 have keep : ∀ {q T z : Nat} {rows : List (List D)}, g[q]? = some (.row T z rows) → T ≠ ty5 → g'[q]? = some (.row T z rows) := fun hq hT => by
  rw [B.old _ (d5p.1 hq).1 (hnd hq hT)]; exact hq
 have hw' := keep hw (by decide)
 have hi' := keep s.hi (by decide)
 refine c2H hw' (by rfl) (by rcases B.ow with ⟨rfl, _⟩ | ⟨o, _, rfl, _⟩ <;> rfl) (by simp) (by rcases B.ow with ⟨rfl, _⟩ | ⟨o, _, rfl, _⟩ <;> rfl) fun g2 h2 s2 => ?_
 have hne : oi ≠ ow := fun hh => by
  subst hh
  rw [s.hi] at hw
  injection hw with hw
  injection hw with h1
  exact absurd h1 (by decide)
 have hc : a0z d' = [d'] := by rcases B.ow with ⟨rfl, _⟩ | ⟨o, _, rfl, _⟩ <;> rfl
 have h2 : g2[ow]? = some (.row a2j 1 [[d']]) := by rw [h2, hc]; rfl
 refine k g2 ⟨by rw [s2.2 oi hne]; exact hi', ⟨d', h2, B.ow.keep fun q _ hx => s2.2 q fun hh => ?_⟩, fun q hq => ?_, ?_⟩
 ·subst hh
  have := a3l B.ow hx
  rw [hw'] at this
  injection this with this
  injection this with h1
  exact absurd h1 (by decide)
 ·rw [s2.2 q (by omega), B.old q (by have := s.ln; omega) (fun hx => by have := (hb.lt hx).1; omega)]
  exact s.lo q hq
 ·have := s2.1; have := B.len; have := s.ln; omega
theorem b8g {n0 oi ow : Nat} {h0 : Hp} {it : List D} {g : Hp} {l : List Int} (s : WrS n0 oi ow h0 it g l) (hn : n0 ≤ ow) (hl : l.length ≤ 999999000) (t : D) (n : Int) (ht : a0s tab t = some t) (hld : a0c tab g ty3 t = some (.int .i64 n)) {β : Type} {f : D × Hp → Option β} {Q : β → Prop}
  (k : ∀ g2, WrS n0 oi ow h0 it g2 (l ++ pI n) → Wp (f (a0i [], g2)) Q) : Wp ((R b6d [.ptr ow 0 0, t] g).bind f) Q := by
 obtain ⟨d, hw, hb⟩ := s.hw
 obtain ⟨d', g1, e1, B⟩ := b7M (IntKind.wrap .u64 n) 8 (by omega) n0 g l d s.ln hb hl
 have e1 : R a4h [d, .int .u64 (IntKind.wrap .u64 n), .int .i64 8] g = some (d', g1) := e1
 rw [c8J]
 simp only [c4e, bs, a0x, a5K, ldw hw, ht, hld, a2f, e1, d4X]
 refine s.put hn hw hb B fun g2 s2 => ?_
 try simp only [bs]
 exact k g2 s2
theorem c6C {n0 oi ow : Nat} {h0 : Hp} {it : List D} {g : Hp} {l : List Int} (s : WrS n0 oi ow h0 it g l) (hn : n0 ≤ ow) (hl : l.length ≤ 999999000) (n : Nat) {β : Type} {f : D × Hp → Option β} {Q : β → Prop}
  (k : ∀ g2, WrS n0 oi ow h0 it g2 (l ++ pN n) → Wp (f (.int .i64 n, g2)) Q) : Wp ((R b6c [.ptr ow 0 0, .int .i64 n] g).bind f) Q := by
 obtain ⟨d, hw, hb⟩ := s.hw
 obtain ⟨d', g1, e1, B⟩ := b7M (IntKind.wrap .u64 n) 4 (by omega) n0 g l d s.ln hb hl
 have e1 : R a4h [d, .int .u64 (IntKind.wrap .u64 n), .int .i64 4] g = some (d', g1) := e1
 rw [c8I]
 simp only [c4d, bs, a0x, a5K, ldw hw, a2f, e1, d4X]
 refine s.put hn hw hb B fun g2 s2 => ?_
 simp only [bs, a0g]
 exact k g2 s2
theorem b4D {n0 oi ow : Nat} {h0 : Hp} {it : List D} {g : Hp} {l : List Int} (s : WrS n0 oi ow h0 it g l) (hn : n0 ≤ ow) (u : Str) (hl : l.length + u.length ≤ 999998000) (t : D) (ht : a0s tab t = some t) (hld : ∀ g' : Hp, g'[oi]? = some (.row a0D 11 [it]) → a0c tab g' ty9 t = some (.str u)) {β : Type} {f : D × Hp → Option β} {Q : β → Prop}
  (k : ∀ g2, WrS n0 oi ow h0 it g2 (l ++ pS u) → Wp (f (a0i [], g2)) Q) : Wp ((R b6e [.ptr ow 0 0, t] g).bind f) Q := by
 obtain ⟨d, hw, hb⟩ := s.hw
 obtain ⟨d1, g1, e1, B1⟩ := b7M (IntKind.wrap .u64 u.length) 4 (by omega) n0 g l d s.ln hb (by omega)
 have e1 : R a4h [d, .int .u64 (IntKind.wrap .u64 u.length), .int .i64 4] g = some (d1, g1) := e1
 obtain ⟨d2, g2, e2, B2⟩ := c4s (Nat.le_trans s.ln B1.len) B1.ow u (by simp only [d5c, a1e]; omega)
 have hi1 : g1[oi]? = some (.row a0D 11 [it]) := by
  rw [B1.old oi (d5p.1 s.hi).1 (fun hx => by
   have := a3l hb hx
   rw [s.hi] at this
   injection this with this
   injection this with h1
   exact absurd h1 (by decide))]
  exact s.hi
 have B := B1.trans B2
 have hpS : l ++ a4l 4 (IntKind.wrap .u64 u.length) ++ sby u = l ++ pS u := by simp [-bind_some, pS, pN]
 rw [hpS] at B
 rw [c8K]
 simp only [c4f, bs, a0x, a5K, ldw hw, ht, hld g s.hi, a4x, a2f, e1, hld g1 hi1, e2, d4X]
 refine s.put hn hw hb B fun g2 s2 => ?_
 simp only [bs, a1D]
 exact k g2 s2
theorem nmN (d : D) : a0s tab (.fn (.method "logtide/event.number") [.iface a4K d] []) = some (.fn (.method "logtide/event.number") [.iface a4K d] []) := by kernel_rfl
theorem nmT (d : D) : a0s tab (.fn (.method "logtide/event.text") [.iface a4K d] []) = some (.fn (.method "logtide/event.text") [.iface a4K d] []) := by kernel_rfl
theorem nmC (d : D) : a0s tab (.fn (.method "logtide/event.count") [.iface a4K d] []) = some (.fn (.method "logtide/event.count") [.iface a4K d] []) := by kernel_rfl
theorem a2y (cs : List D) : a0s tab (.fptr cs) = some (.fptr cs) := id rfl
theorem itA {g : Hp} {oi : Nat} {i : It} (h : g[oi]? = some (.row a0D 11 [itr i])) : a0c tab g ty9 (.ptr oi 0 (0 + 0)) = some (.str i.r) ∧ a0c tab g ty3 (.ptr oi 0 (0 + 1 + 0)) = some (.int .i64 i.e.a0) ∧ a0c tab g ty3 (.ptr oi 0 (0 + 1 + 1)) = some (.int .i64 i.e.a1) ∧
  a0c tab g ty3 (.ptr oi 0 (0 + 1 + 2)) = some (.int .i64 i.e.a2) ∧ a0c tab g ty3 (.ptr oi 0 (0 + 1 + 3)) = some (.int .i64 i.e.a3) ∧ a0c tab g a1u (.ptr oi 0 (0 + 1 + 4)) = some i.e.ld ∧ a0c tab g ty3 (.ptr oi 0 (0 + 1 + 5)) = some (.int .i64 i.e.a5) ∧
  a0c tab g ty3 (.ptr oi 0 (0 + 1 + 6)) = some (.int .i64 i.e.a6) ∧ a0c tab g ty9 (.ptr oi 0 (0 + 1 + 7)) = some (.str i.e.s7) ∧ a0c tab g ty9 (.ptr oi 0 (0 + 1 + 8)) = some (.str i.e.s8) ∧ a0c tab g a1c (.ptr oi 0 (0 + 1 + 9)) = some i.e.fd := by
 refine ⟨?_, ?_, ?_, ?_, ?_, ?_, ?_, ?_, ?_, ?_, ?_⟩
 ·rw [b1G, a0V h]; rfl
 ·rw [b0L, a0V h]; rfl
 ·rw [b0L, a0V h]; rfl
 ·rw [b0L, a0V h]; rfl
 ·rw [b0L, a0V h]; rfl
 ·rw [b6C, a0V h]; rfl
 ·rw [b0L, a0V h]; rfl
 ·rw [b0L, a0V h]; rfl
 ·rw [b1G, a0V h]; rfl
 ·rw [b1G, a0V h]; rfl
 ·rw [c5q, a0V h]; rfl
def pl4 (oi : Nat) : List (List D) := [[.ptr oi 0 (0 + 1 + 0)], [.ptr oi 0 (0 + 1 + 1)], [.ptr oi 0 (0 + 1 + 2)], [.ptr oi 0 (0 + 1 + 3)]]
def a9p (i : It) : List Int := [i.e.a0, i.e.a1, i.e.a2, i.e.a3]
theorem c1C {g : Hp} {oi : Nat} {i : It} (h : g[oi]? = some (.row a0D 11 [itr i])) (n : Nat) (hn : n < 4) : ∃ t a, a0b tab a5Z (.sl 1 true (pl4 oi)) (.int .i64 n) = some (.fptr [t]) ∧ a0s tab t = some t ∧ a0c tab g ty3 t = some (.int .i64 a) ∧ (a9p i)[n]? = some a := by
 obtain ⟨_, h0, h1, h2, h3, _⟩ := itA h
 have : n = 0 ∨ n = 1 ∨ n = 2 ∨ n = 3 := by omega
 rcases this with rfl | rfl | rfl | rfl
 ·exact ⟨_, _, by rw [b0H]; rfl, a0x _ _ _ _, h0, rfl⟩
 ·exact ⟨_, _, by rw [b0H]; rfl, a0x _ _ _ _, h1, rfl⟩
 ·exact ⟨_, _, by rw [b0H]; rfl, a0x _ _ _ _, h2, rfl⟩
 ·exact ⟨_, _, by rw [b0H]; rfl, a0x _ _ _ _, h3, rfl⟩
theorem d2h (i : It) {n0 oi ow : Nat} {h0 g : Hp} {l : List Int} (s : WrS n0 oi ow h0 (itr i) g l) (hn : n0 ≤ ow) (hl : l.length + (a1S i).length ≤ 900000000) {β : Type} {f : D × Hp → Option β} {Q : β → Prop}
  (k : ∀ g2, WrS n0 oi ow h0 (itr i) g2 (l ++ a1S i) → Wp (f (a0i [], g2)) Q) : Wp ((R b0y [.iface a4K (.ptr ow 0 0), .ptr oi 0 0] g).bind f) Q := by
 have hbb := hl
 simp only [a1S, a4T, a3g, d5c, a1d, a1x, a1v] at hbb
 have hll := i.e.hll
 have hlf := i.e.hl
 rw [c4P]
 simp only [c1d, bs, d4X, a0x, b1w, a7p, nmT, nmN, nmC, a3k, a2s, a3V, b1u, b1v, a9i, a9j]
 refine b4D s hn i.r (by omega) _ (a0x _ _ _ _) (fun g' h => (itA h).1) fun g1 s1 => ?_
 simp only [bs, b2F (.ptr oi 0 (0 + 1 + 0)) (.ptr oi 0 (0 + 1 + 1)) (.ptr oi 0 (0 + 1 + 2)) (.ptr oi 0 (0 + 1 + 3)) rfl rfl rfl rfl, show ([[.ptr oi 0 (0 + 1 + 0)], [.ptr oi 0 (0 + 1 + 1)], [.ptr oi 0 (0 + 1 + 2)], [.ptr oi 0 (0 + 1 + 3)]] : List (List D)) = pl4 oi from rfl, b6D, show (pl4 oi).length = 4 from rfl]
 refine Wp.loop (fun kk ds g' => ∃ a b, ∃ n : Nat, ds = [a, .int .i64 n, b] ∧ kk + n = 4 ∧ WrS n0 oi ow h0 (itr i) g' (l ++ pS i.r ++ (((a9p i).take n).map pI).flatten))
  (fun r => r.1 = .ext 0 ∧ (∃ a b c, r.2.1 = [a, b, c]) ∧ WrS n0 oi ow h0 (itr i) r.2.2 (l ++ pS i.r ++ ((a9p i).map pI).flatten)) 4 ⟨_, _, 0, rfl, rfl, by simpa using s1⟩ ?_ ?_
 ·rintro kk ds g' ⟨a, b, n, rfl, hk, s'⟩
  simp only [a8S, a0f, a0n, bs, d4X, a0j]
  refine Wp.dif ?_ ?_
  ·intro h1
   have h1 : n < 4 := by
    have : (n : Int) < ((4 : Nat) : Int) := by simpa using h1
    omega
   obtain ⟨t, v, q1, q2, q3, q4⟩ := c1C s'.hi n h1
   have hw := wi_ n (by omega)
   have hle := a5g pI (a9p i) n
   have hl32 : ((a9p i).map pI).flatten.length = 32 := by simp only [a9p, d5f, d5g, List.flatten_cons, List.flatten_nil, d5c, a1d, d5r]
   simp only [q1, b0J, bs, a2s]
   refine b8g s' hn (by simp only [d5c, a1v]; omega) t v q2 q3 fun g2 s2 => ?_
   simp only [bs, a0u, hw]
   refine .some (.inl ⟨rfl, kk - 1, by omega, _, _, n + 1, rfl, by omega, ?_⟩)
   rw [a1r pI q4]
   simpa using s2
  ·intro h1
   have h1 : n = 4 := by
    have : ¬ (n : Int) < ((4 : Nat) : Int) := by simpa using h1
    omega
   subst h1
   exact .some (.inr ⟨by simp, rfl, ⟨_, _, _, rfl⟩, s'⟩)
 rintro ⟨ex, ds, g2⟩ ⟨rfl, ⟨a, b, c, rfl⟩, s2⟩
 have s2 : WrS n0 oi ow h0 (itr i) g2 (l ++ pS i.r ++ ((a9p i).map pI).flatten) := s2
 have h4 : ((a9p i).map pI).flatten = pI i.e.a0 ++ pI i.e.a1 ++ pI i.e.a2 ++ pI i.e.a3 := by simp [-bind_some, a9p]
 rw [h4] at s2
 simp only [a0l, a0o, bs, d4X, a0x, a3t, (itA s2.hi).2.2.2.2.2.1, a2G i.e.hld, nmC, a3V]
 refine c6C s2 hn (by simp only [d5c, a1d, a1v]; omega) i.e.ls.length fun g3 s3 => ?_
 have hA : l ++ pS i.r ++ (pI i.e.a0 ++ pI i.e.a1 ++ pI i.e.a2 ++ pI i.e.a3) ++ pN i.e.ls.length = l ++ a3g i := by simp [-bind_some, a3g]
 rw [hA] at s3
 have hAl : (a3g i).length = 4 + i.r.length + 36 := by simp only [a3g, d5c, a1v, a1d, a1x]
 simp only [bs]
 refine Wp.loop (fun kk ds g' => ∃ a b c d, ∃ n : Nat, ds = [a, b, .int .i64 n, c, d] ∧ kk + n = i.e.ls.length ∧ WrS n0 oi ow h0 (itr i) g' (l ++ a3g i ++ ((i.e.ls.take n).map lnB).flatten))
  (fun r => r.1 = .ext 2 ∧ (∃ a b c d e, r.2.1 = [a, b, c, d, e]) ∧ WrS n0 oi ow h0 (itr i) r.2.2 (l ++ a3g i ++ (i.e.ls.map lnB).flatten)) i.e.ls.length ⟨_, _, _, _, 0, rfl, rfl, by simpa using s3⟩ ?_ ?_
 ·rintro kk ds g' ⟨a, b, c, d, n, rfl, hk, s'⟩
  simp only [a6K, a0f, a0n, bs, d4X, a0j]
  refine Wp.dif ?_ ?_
  ·intro h1
   have h1 : n < i.e.ls.length := dl_ h1
   obtain ⟨x, hx⟩ := gx_ h1
   have hw := wi_ n (by omega)
   have hix : a0b tab a1u i.e.ld (.int .i64 (n : Int)) = some (.fptr (a1p x)) := by rw [a9u i.e.hld]; simp [-bind_some, hx]
   have hle := a5g lnB i.e.ls (n + 1)
   rw [a1r lnB hx, d5c] at hle
   have hln : (lnB x).length = 20 + x.txt.length := by simp only [lnB, d5c, a1d, a1v]; omega
   have hne : ¬ (n : Int) = (i.e.ls.length : Int) := by omega
   simp only [a0x, a3t, bs, (itA s'.hi).2.2.2.2.2.1, a2G i.e.hld, a0R, hne, decide_false, a0d, d4Y, if_false, a0o, hix, a2y, lF0, lF1, lF2, nmN, nmT, a2s, a3k]
   refine b8g s' hn (by simp only [d5c]; omega) _ x.off (a2y _) (lL0 x g') fun g4 s4 => ?_
   simp only [bs]
   refine b8g s4 hn (by simp only [d5c, a1d]; omega) _ x.len (a2y _) (ld3 _ _ _) fun g5 s5 => ?_
   simp only [bs]
   refine b4D s5 hn x.txt (by simp only [d5c, a1d]; omega) _ (a2y _) (fun g' _ => ld9 _ _ _) fun g6 s6 => ?_
   simp only [bs, a0u, hw]
   refine .some (.inl ⟨rfl, kk - 1, by omega, _, _, _, _, n + 1, rfl, by omega, ?_⟩)
   rw [a1r lnB hx]
   simpa [-bind_some, lnB] using s6
  ·intro h1
   have h1 : n = i.e.ls.length := by
    have : ¬ (n : Int) < i.e.ls.length := by simpa using h1
    omega
   subst h1
   rw [d5x] at s'
   exact .some (.inr ⟨by simp, rfl, ⟨_, _, _, _, _, rfl⟩, s'⟩)
 rintro ⟨ex, ds, g4⟩ ⟨rfl, ⟨a, b, c, d, e, rfl⟩, s4⟩
 have s4 : WrS n0 oi ow h0 (itr i) g4 (l ++ a3g i ++ (i.e.ls.map lnB).flatten) := s4
 simp only [a0l, a0o, bs, d4X, a0x, a9k, a9l, a9m, a9n, a5f, nmN, nmT, nmC, a2s, a3k, a3V]
 refine b8g s4 hn (by simp only [d5c]; omega) _ i.e.a5 (a0x _ _ _ _) (itA s4.hi).2.2.2.2.2.2.1 fun g5 s5 => ?_
 simp only [bs]
 refine b8g s5 hn (by simp only [d5c, a1d]; omega) _ i.e.a6 (a0x _ _ _ _) (itA s5.hi).2.2.2.2.2.2.2.1 fun g6 s6 => ?_
 simp only [bs]
 refine b4D s6 hn i.e.s7 (by simp only [d5c, a1d]; omega) _ (a0x _ _ _ _) (fun g' h => (itA h).2.2.2.2.2.2.2.2.1) fun g7 s7' => ?_
 simp only [bs]
 refine b4D s7' hn i.e.s8 (by simp only [d5c, a1d, a1v]; omega) _ (a0x _ _ _ _) (fun g' h => (itA h).2.2.2.2.2.2.2.2.2.1) fun g8 s8' => ?_
 simp only [bs, (itA s8'.hi).2.2.2.2.2.2.2.2.2.2, a1W i.e.hfd]
 refine c6C s8' hn (by simp only [d5c, a1d, a1v]; omega) i.e.fs.length fun g9 s9 => ?_
 have hB : l ++ a3g i ++ (i.e.ls.map lnB).flatten ++ pI i.e.a5 ++ pI i.e.a6 ++ pS i.e.s7 ++ pS i.e.s8 ++ pN i.e.fs.length = l ++ a4T i := by simp [-bind_some, a4T]
 rw [hB] at s9
 have hBl : (a4T i).length = (a3g i).length + (i.e.ls.map lnB).flatten.length + 16 + (4 + i.e.s7.length) + (4 + i.e.s8.length) + 4 := by simp only [a4T, d5c, a1d, a1v, a1x]
 simp only [bs]
 refine Wp.loop (fun kk ds g' => ∃ a b c, ∃ n : Nat, ds = [a, .int .i64 n, b, c] ∧ kk + n = i.e.fs.length ∧ WrS n0 oi ow h0 (itr i) g' (l ++ a4T i ++ ((i.e.fs.take n).map fdB).flatten))
  (fun r => r.1 = .ext 4 ∧ (∃ a b c d, r.2.1 = [a, b, c, d]) ∧ WrS n0 oi ow h0 (itr i) r.2.2 (l ++ a1S i)) i.e.fs.length ⟨_, _, _, 0, rfl, rfl, by simpa using s9⟩ ?_ ?_
 ·rintro kk ds g' ⟨a, b, c, n, rfl, hk, s'⟩
  simp only [a6L, a0f, a0n, bs, d4X, a0j]
  refine Wp.dif ?_ ?_
  ·intro h1
   have h1 : n < i.e.fs.length := dl_ h1
   obtain ⟨x, hx⟩ := gx_ h1
   have hw := wi_ n (by omega)
   have hix : a0b tab a1c i.e.fd (.int .i64 (n : Int)) = some (.fptr (fld x)) := by rw [a7S i.e.hfd]; simp [-bind_some, hx]
   have hle := a5g fdB i.e.fs (n + 1)
   rw [a1r fdB hx, d5c] at hle
   have hln : (fdB x).length = 8 + x.1.length + x.2.length := by simp only [fdB, d5c, a1v]; omega
   have hne : ¬ (n : Int) = (i.e.fs.length : Int) := by omega
   simp only [a0x, a5f, bs, (itA s'.hi).2.2.2.2.2.2.2.2.2.2, a1W i.e.hfd, a0R, hne, decide_false, a0d, d4Y, if_false, a0o, hix, a2y, fF0, nmN, nmT, a2s, a3k]
   refine b4D s' hn x.1 (by simp only [d5c]; omega) _ (a2y _) (fun g' _ => fL0 x g') fun g4 s4 => ?_
   simp only [bs, (itA s4.hi).2.2.2.2.2.2.2.2.2.2, hix, fF1]
   refine b4D s4 hn x.2 (by simp only [d5c, a1v]; omega) _ (a2y _) (fun g' _ => ld9 _ _ _) fun g6 s6 => ?_
   simp only [bs, a0u, hw]
   refine .some (.inl ⟨rfl, kk - 1, by omega, _, _, _, n + 1, rfl, by omega, ?_⟩)
   rw [a1r fdB hx]
   simpa [-bind_some, fdB] using s6
  ·intro h1
   have h1 : n = i.e.fs.length := by
    have : ¬ (n : Int) < i.e.fs.length := by simpa using h1
    omega
   subst h1
   rw [d5x] at s'
   exact .some (.inr ⟨by simp, rfl, ⟨_, _, _, _, rfl⟩, by simpa [-bind_some, a1S] using s'⟩)
 rintro ⟨ex, ds, gz⟩ ⟨rfl, ⟨a, b, c, d, rfl⟩, sz⟩
 simp only [a0l, a2E, bs, d4X]
 exact k gz sz
theorem c5A (g : Hp) : a9b tab g a0H (.int .i64 4) (.int .i64 4) = some (.msl 1 g.length 0 4, a0F g ty5 1 ([0, 0, 0, 0].map byr)) := by
 have h1 : tab a0H = some ti22 := id rfl
 have h2 : ti22.td = .sl ty5 := id rfl
 have h3 : tab ty5 = some ti5 := id rfl
 have h4 : ti5.sz = 1 := id rfl
 have h5 : ti5.zero = byr 0 := id rfl
 have h6 : lim 4 ti5.by_ = true := a4j (by have : ti5.by_ = 1 := rfl; rw [this]; omega) (by omega)
 have h7 : (4 : Int).toNat = 4 := rfl
 simp only [a9b, h1, h2, h3, h4, h5, h7, h6, show (0 : Int) ≤ 4 ∧ (4 : Int) ≤ 4 ∧ true = true ∧ 0 < 1 from ⟨by omega, by omega, rfl, by omega⟩, if_true]
 rfl
theorem d2G {g : Hp} {o : Nat} {p m r : List Int} {y : D} (ho : g[o]? = some (.row ty5 1 ((p ++ r).map byr))) (hy : a1C g 1 y = some (m.map byr)) (hl : m.length = p.length) : ∃ g', b4e tab g a0H a0H (.msl 1 o 0 (p ++ r).length) y = some (.int .i64 m.length, g') ∧ g'[o]? = some (.row ty5 1 ((m ++ r).map byr)) ∧ Same o g g' := by
 have h1 : tab a0H = some ti22 := id rfl
 have h2 : ti22.td = .sl ty5 := id rfl
 have h3 : tab ty5 = some ti5 := id rfl
 have h4 : ti5.sz = 1 := id rfl
 have hs : b0h g ti22 ti5 y = some (m.map byr) := by simp only [b0h, h2, h4, hy]
 have hn : b7d ti22 = true := rfl
 have hb : Nat.blt 0 1 = true := rfl
 have holt := (d5p.1 ho).1
 have hmin : min (m.map byr).length (p ++ r).length = m.length := by simp; omega
 refine ⟨g.set o (.row ty5 1 (((p ++ r).map byr).take 0 ++ (m.map byr).take (p ++ r).length ++ ((p ++ r).map byr).drop (0 + m.length))), ?a1, ?a2, ?a3⟩
 case a1 => simp only [b4e, h1, h2, hn, h3, h4, hb, hs, ho, and_self, if_true, hmin]
 case a2 =>
  rw [List.getElem?_set_self holt]
  have e1 : (m.map byr).take (p ++ r).length = m.map byr := List.take_of_length_le (by simp; omega)
  rw [e1, List.take_zero, List.nil_append, Nat.zero_add, hl, d5e, List.drop_left' (by simp), d5e]
 case a3 => exact ⟨by simp, fun q hq => d5z (Ne.symm hq)⟩
theorem d1B (i : It) (c : Int) (h : Hp) (hc : ∀ g, R a5P [.agg (itr i)] g = some (.int .i64 c, g)) (hb : (a1S i).length ≤ 800000000) : ∃ d', R b3j [.agg (itr i)] h = some (.tup [d', .int .i64 c], h) ∧ SlOf 1 byr (if c = 0 then a3L i else []) d' := by
 suffices Wp (R b3j [.agg (itr i)] h) (fun p => p.2 = h ∧ ∃ d', p.1 = .tup [d', .int .i64 c] ∧ SlOf 1 byr (if c = 0 then a3L i else []) d') by
  obtain ⟨⟨x, h'⟩, h1, rfl, d', rfl, h2⟩ := this
  exact ⟨d', h1, h2⟩
 have hi0 : (a0F h a0D 11 [itr i])[h.length]? = some (.row a0D 11 [itr i]) := a1q _ _ _ _
 have ld0 : a0c tab (a0F h a0D 11 [itr i]) a0D (.ptr h.length 0 0) = some (.agg (itr i)) := by rw [b0M, a0V hi0]; rfl
 have hl0 : (a0F h a0D 11 [itr i]).length = h.length + 1 := by simp [-bind_some, a0F]
 rw [c8x]
 simp only [c3S, a2W a0D 11 h (itr i) rfl (by omega), bs, d4X, ld0, hc, a0t]
 refine Wp.dif ?_ ?_
 ·intro h0
  have h0 : ¬ c = 0 := by simpa using h0
  simp only [bs, a0S]
  rw [a1i (d' := .tup [.nils, .int .i64 c]) (by simp) (.tup _ fun d hd => by simp at hd; rcases hd with rfl | rfl <;> constructor) (by omega) fun q hq => a0U _ _ _ _ hq]
  exact .some ⟨rfl, _, rfl, by rw [if_neg h0]; exact .nils _ _⟩
 ·intro h0
  have h0 : c = 0 := by simpa using h0
  subst h0
  generalize hg0 : a0F h a0D 11 [itr i] = g0 at *
  have hl1 : (a0F g0 ty5 1 ([0, 0, 0, 0].map byr)).length = h.length + 2 := by simp [-bind_some, a0F, hl0]
  have hb1 : (a0F g0 ty5 1 ([0, 0, 0, 0].map byr))[h.length + 1]? = some (.row ty5 1 ([0, 0, 0, 0].map byr)) := by rw [← hl0]; exact a1q _ _ _ _
  have hi1 : (a0F g0 ty5 1 ([0, 0, 0, 0].map byr))[h.length]? = some (.row a0D 11 [itr i]) := by rw [a0U _ _ _ _ (by omega)]; exact hi0
  have hq1 : ∀ q, q < h.length → (a0F g0 ty5 1 ([0, 0, 0, 0].map byr))[q]? = h[q]? := fun q hq => by rw [a0U _ _ _ _ (by omega), ← hg0, a0U _ _ _ _ hq]
  simp only [c5A, bs, hl0]
  generalize a0F g0 ty5 1 ([0, 0, 0, 0].map byr) = g1 at *
  simp only [b8y (.msl 1 (h.length + 1) 0 4) rfl, bs, a2W a2j 1 g1 [.msl 1 (h.length + 1) 0 4] rfl (by omega), hl1]
  have hw2 : (a0F g1 a2j 1 [[.msl 1 (h.length + 1) 0 4]])[h.length + 2]? = some (.row a2j 1 [[.msl 1 (h.length + 1) 0 4]]) := by rw [← hl1]; exact a1q _ _ _ _
  have S0 : WrS h.length h.length (h.length + 2) h (itr i) (a0F g1 a2j 1 [[.msl 1 (h.length + 1) 0 4]]) [0, 0, 0, 0] :=
   ⟨by rw [a0U _ _ _ _ (by omega)]; exact hi1, ⟨_, hw2, .inr ⟨h.length + 1, by omega, rfl, by rw [a0U _ _ _ _ (by omega)]; exact hb1⟩⟩, fun q hq => by rw [a0U _ _ _ _ (by omega)]; exact hq1 q hq, by simp [-bind_some, a0F]; omega⟩
  refine d2h i S0 (by omega) (by simp; omega) fun g2 S => ?_
  obtain ⟨d, hw, ho⟩ := S.hw
  have ldd := ldw hw
  have hlen : ([0, 0, 0, 0] ++ a1S i : List Int).length = (a1S i).length + 4 := by simp
  obtain ⟨P, hP⟩ : ∃ P, P = a4l 4 (IntKind.wrap .u64 (((a1S i).length : Int) + 4)) := ⟨_, rfl⟩
  have hPl : P.length = ([0, 0, 0, 0] : List Int).length := by rw [hP, a1e]; rfl
  have hH : P ++ a1S i = a6E i := by rw [hP]; rfl
  have rb := RdB.own ho
  have hli : (([0, 0, 0, 0] ++ a1S i : List Int).length : Int) = ((a1S i).length : Int) + 4 := by rw [hlen]; omega
  obtain ⟨dp, g3, e3, B3⟩ := b7M (IntKind.wrap .u64 (((a1S i).length : Int) + 4)) 4 (by omega) g2.length g2 [] .nils (Nat.le_refl _) (Own.nils _ _ _ _) (by simp)
  rw [List.nil_append, ← hP] at B3
  have e3 : R a4h [.nils, .int .u64 (IntKind.wrap .u64 (((a1S i).length : Int) + 4)), .int .i64 4] g2 = some (dp, g3) := e3
  simp only [bs, a0x, a5K, ldd, a6n rb, hli, a2f]
  refine Wp.step e3 ?_
  have old3 : ∀ q, q < g2.length → g3[q]? = g2[q]? := fun q hq => B3.old q hq (a8r q)
  have hw3 : g3[h.length + 2]? = some (.row a2j 1 [[d]]) := by rw [old3 _ (d5p.1 hw).1]; exact hw
  have ldd3 := ldw hw3
  have ho3 : Own g3 h.length ty5 1 (([0, 0, 0, 0] ++ a1S i : List Int).map byr) d := ho.keep fun q _ hx => old3 q (ho.lt hx).2
  obtain ⟨o, hon, hdo, hob⟩ := a4k ho3 (i := 0) (by simp)
  rw [d5d] at hdo
  obtain ⟨g4, e4, ho4, s4⟩ := d2G hob (a4b (RdB.own B3.ow)) hPl
  rw [← hdo] at e4
  have hne : h.length + 2 ≠ o := fun hh => by
   rw [hh, hob] at hw3
   injection hw3 with hw3
   injection hw3 with h1
   exact absurd h1 (by decide)
  have hw4 : g4[h.length + 2]? = some (.row a2j 1 [[d]]) := by rw [s4.2 _ hne]; exact hw3
  have ldd4 := ldw hw4
  have ho4' : g4[o]? = some (.row ty5 1 ((a6E i).map byr)) := by rw [← hH]; exact ho4
  have hHl : (a6E i).length = 4 + (a1S i).length := by simp only [a6E, d5c, a1e]
  have own4 : Own g4 h.length ty5 1 ((a6E i).map byr) d := .inr ⟨o, hon, by rw [hdo, hlen, d5d, hHl, Nat.add_comm], ho4'⟩
  have hn4 : h.length ≤ g4.length := by have := s4.1; have := B3.len; have := S.ln; omega
  have e5 := c6l (a6E i) _ g4 (RdB.own own4) (by omega) (b1t i)
  obtain ⟨d5, g5, e6, B5⟩ := b7M (a3K (a6E i)) 4 (by omega) h.length g4 (a6E i) _ hn4 own4 (by omega)
  have e6 : R a4h [d, .int .u64 (a3K (a6E i)), .int .i64 4] g4 = some (d5, g5) := e6
  simp only [bs, e4, ldd3, ldd4, e5, e6, a1D, a0S]
  have hE : a6E i ++ a4l 4 (a3K (a6E i)) = a3L i := rfl
  rw [hE] at B5
  have hsl := a2C (n0 := h.length) (n := 2) B5.ow (Nat.le_refl _) (fun a _ => a5d _ g5 2 a)
  have hlow : ∀ q, q < h.length → g5[q]? = h[q]? := fun q hq => by
   rw [B5.old q (by omega) (fun hx => by have := (own4.lt hx).1; omega), s4.2 q (by omega), old3 q (by have := S.ln; omega)]
   exact S.lo q hq
  rw [a1i (d' := .tup [frz h.length g5 3 d5, .int .i64 0]) (by simp) (by
   refine .tup _ fun d hd => ?_
   simp at hd
   rcases hd with rfl | rfl
   ·exact a2e hsl fun a _ => a7X _ a
   ·constructor) (Nat.le_trans hn4 B5.len) hlow]
  exact .some ⟨rfl, _, rfl, by simpa using hsl⟩
def bys (l : List Int) : Str := l.map fun z => UInt8.ofNat z.toNat
theorem b0g : ∀ (l : List Int), a7k (l.map byr) = some (bys l)
 | [] => rfl
 | z :: l => by
  simp only [d5f, byr, a7k]
  rw [b0g l]
  rfl
theorem a6X {h : Hp} {l : List Int} {d : D} (hd : SlOf 1 byr l d) : a6v h d = some (.str (bys l)) := by
 simp only [a6v, a4b (h := h) (.inl hd), b0g]
theorem a2m : ∀ (n : Nat) (l : List Int), l.length = n → (∀ z ∈ l, U8 z) → 0 ≤ num l ∧ num l < 256 ^ n
 | 0, l, h, _ => by
  have : l = [] := List.length_eq_zero_iff.1 h
  subst this
  simp [-bind_some, num]
 | n + 1, l, h, hu => by
  have hz : l[n]? = some l[n] := d5o (by omega)
  have h1 := a4Q hz
  rw [List.take_of_length_le (by omega)] at h1
  have h2 := a2m n (l.take n) (by simp; omega) fun z hz => hu z (List.mem_of_mem_take hz)
  have h3 := hu l[n] (List.getElem_mem _)
  unfold U8 at h3
  rw [h1, Int.pow_succ]
  omega
end Go.Proofs.YthaajlepgblimaaGreatDoor
