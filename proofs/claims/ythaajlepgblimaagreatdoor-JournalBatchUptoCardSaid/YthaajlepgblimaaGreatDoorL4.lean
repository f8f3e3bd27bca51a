/- Laws, on plain data, about functions that the statement reaches. -/
import Derived.Test.YthaajlepgblimaaGreatDoorL3
set_option linter.unusedSimpArgs false
set_option linter.unusedVariables false
set_option linter.unnecessarySimpa false
set_option maxRecDepth 100000
namespace Go.Proofs.YthaajlepgblimaaGreatDoor
open Go.Eng Go.Pi
open Option (bind_some)
theorem c6B {c : Str × Str → Str × Str → Int} {S Pre : Str × Str → Str × Str → Prop} (od : SOrd c S Pre) {cmp : D} (hcmp : b9N cmp c) {o N n : Nat} (hN : N ≤ 1000000000) (ih : b4M c S Pre cmp o N n)
  {g : Hp} {P A B Q : List (Str × Str)} {a m b : Int} (hn : A.length + B.length ≤ n + 1) (hlen : (P ++ A ++ B ++ Q).length = N) (hA : 0 < A.length) (hB : 0 < B.length) (sA : A.Pairwise S) (sB : B.Pairwise S) (hp : ∀ x ∈ A, ∀ y ∈ B, Pre x y)
  (ho : g[o]? = some (.row a0w 2 ((P ++ A ++ B ++ Q).map fld))) (ha : a = (P.length : Nat)) (hm : m = (P.length + A.length : Nat)) (hb : b = (P.length + A.length + B.length : Nat)) :
  Wp (a5v (.msl 2 o 0 N) (.int .i64 a) (.int .i64 m) (.int .i64 b) cmp g) fun p => ∃ C : List (Str × Str), C.Perm (A ++ B) ∧ C.Pairwise S ∧ p.2[o]? = some (.row a0w 2 ((P ++ C ++ Q).map fld)) ∧ Same o g p.2 := by
 have hl := hlen
 simp only [d5c] at hl
 obtain ⟨mid, hmid⟩ : ∃ mid : Nat, mid = (P.length + (P.length + A.length + B.length)) / 2 := ⟨_, rfl⟩
 obtain ⟨mm, hmm⟩ : ∃ mm : Nat, mm = P.length + A.length := ⟨_, rfl⟩
 obtain ⟨bb, hbb⟩ : ∃ bb : Nat, bb = P.length + A.length + B.length := ⟨_, rfl⟩
 rw [← hmm] at hm
 rw [← hbb] at hb
 subst ha hm hb
 obtain ⟨u1, u2, u3, u4⟩ := @b3y P.length bb (by omega) (by omega)
 rw [← show mid = (P.length + bb) / 2 by rw [hmid, hbb]] at u3 u4
 have w1 : IntKind.wrap .i64 ((mid : Int) + (mm : Int)) = ((mid + mm : Nat) : Int) := by rw [wrap_i64 (by omega) (by omega)]; omega
 have w2 : IntKind.wrap .i64 (((mid + mm : Nat) : Int) - 1) = ((mid + (P.length + A.length) - 1 : Nat) : Int) := by rw [wrap_i64 (by omega) (by omega)]; omega
 simp only [a5v, bs, d4X, a0u, u1, a7i, u2, a2n, show ¬ (1 : Int) < 0 by omega, if_false, u3, a8Z, u4, w1, a0v]
 refine Wp.join (P := fun r => r.1 = .nrm ∧ r.2.2 = g ∧ ∃ s0 r0 : Nat, r.2.1 = [.int .i64 (s0 : Int), .int .i64 (r0 : Int)] ∧ ((P.length + A.length > mid ∧ s0 + B.length = mid ∧ r0 = mid) ∨ (P.length + A.length ≤ mid ∧ s0 = P.length ∧ r0 = P.length + A.length))) ?_ ?_ ?_
 ·intro h0
  have h0 : mid < mm := by
   have : (mm : Int) > (mid : Int) := by simpa using h0
   omega
  have w3 : IntKind.wrap .i64 (((mid + mm : Nat) : Int) - (bb : Int)) = ((mid - B.length : Nat) : Int) := by rw [wrap_i64 (by omega) (by omega)]; omega
  simp only [a0B, w3, bs]
  exact .some ⟨rfl, rfl, mid - B.length, mid, rfl, .inl ⟨by omega, by omega, rfl⟩⟩
 ·intro h0
  have h0 : ¬ mid < mm := by
   have : ¬ (mm : Int) > (mid : Int) := by simpa using h0
   omega
  exact .some ⟨rfl, rfl, P.length, mm, rfl, .inr ⟨by omega, rfl, hmm⟩⟩
 rintro ⟨ex, ds, g'⟩ ⟨rfl, q2, s0, r0, rfl, hs⟩
 simp only at q2
 subst q2
 simp only [a0o, a0B, w2, bs, a0f, a0n, d4X]
 refine c4D hN hlen hA hB ho cmp c hcmp mid s0 r0 hmid hs _ rfl _ _ _ fun k b1 b2 b3 A1 A2 B1 B2 eA eB ek em h1 h2 => ?_
 subst eA eB
 simp only [d5c] at *
 have w4 : IntKind.wrap .i64 (((mid + mm : Nat) : Int) - (k : Int)) = ((mm + B1.length : Nat) : Int) := by rw [wrap_i64 (by omega) (by omega)]; omega
 simp only [a0l, a0o, bs, a0f, a0n, d4X, a0B, w4, a0j, b1j]
 rw [List.pairwise_append] at sA sB
 -- the rotation
 refine Wp.bind (P := fun r => r.1 = .nrm ∧ r.2.2[o]? = some (.row a0w 2 ((P ++ A1 ++ B1 ++ A2 ++ B2 ++ Q).map fld)) ∧ Same o g' r.2.2) ?_ ?_
 ·by_cases c1 : 0 < A2.length
  ·have d1 : decide ((k : Int) < (mm : Int)) = true := decide_eq_true (by omega)
   by_cases c2 : 0 < B1.length
   ·have d2 : decide ((mm : Int) < ((mm + B1.length : Nat) : Int)) = true := decide_eq_true (by omega)
    simp only [d1, d2, Bool.and_self, a0d, if_true]
    refine d2g (P := P ++ A1) (U := A2) (V := B1) (Q := B2 ++ Q) hN (by simp only [d5c]; omega) c1 c2 (by rw [ho]; simp [-bind_some]) cmp _ _ _ (by simp only [d5c]; omega) (by simp only [d5c]; omega) (by simp only [d5c]; omega) fun g1 p1 s1 => ?_
    exact .some ⟨rfl, by simp only [p1]; simp [-bind_some], s1⟩
   ·have e2 : B1 = [] := List.eq_nil_of_length_eq_zero (by omega)
    subst e2
    have d2 : decide ((mm : Int) < ((mm + ([] : List (Str × Str)).length : Nat) : Int)) = false := decide_eq_false (by simp)
    simp only [d1, d2, Bool.and_false, a0d, d4Y, if_false]
    exact .some ⟨rfl, by simp only [ho]; simp [-bind_some], .refl _ _⟩
  ·have e2 : A2 = [] := List.eq_nil_of_length_eq_zero (by omega)
   subst e2
   have d1 : decide ((k : Int) < (mm : Int)) = false := decide_eq_false (by simp only [d5r] at *; omega)
   simp only [d1, Bool.false_and, a0d, d4Y, if_false]
   exact .some ⟨rfl, by simp only [ho]; simp [-bind_some], .refl _ _⟩
 rintro ⟨ex, ds, g1⟩ ⟨rfl, p1, s1⟩
 simp only [a0o, bs, d4X, a0j, b1j]
 -- the first half
 refine Wp.bind (P := fun r => r.1 = .nrm ∧ ∃ C1 : List (Str × Str), C1.Perm (A1 ++ B1) ∧ C1.Pairwise S ∧ r.2.2[o]? = some (.row a0w 2 ((P ++ C1 ++ (A2 ++ B2 ++ Q)).map fld)) ∧ Same o g' r.2.2) ?_ ?_
 ·by_cases c1 : 0 < A1.length
  ·have d1 : decide (((P.length : Nat) : Int) < (k : Int)) = true := decide_eq_true (by omega)
   by_cases c2 : 0 < B1.length
   ·have d2 : decide ((k : Int) < (mid : Int)) = true := decide_eq_true (by omega)
    simp only [d1, d2, Bool.and_self, a0d, if_true]
    refine Wp.bind (ih g1 P A1 B1 (A2 ++ B2 ++ Q) _ _ _ (by omega) (by simp only [d5c]; omega) c1 c2 sA.1 sB.1 (fun x hx y hy => hp x (by simp [-bind_some, hx]) y (by simp [-bind_some, hy])) (by rw [p1]; simp [-bind_some]) rfl (by omega) (by omega)) ?_
    rintro ⟨d, g2⟩ ⟨C, q1, q2, q3, q4⟩
    exact .some ⟨rfl, C, q1, q2, q3, s1.trans q4⟩
   ·have e2 : B1 = [] := List.eq_nil_of_length_eq_zero (by omega)
    subst e2
    have d2 : decide ((k : Int) < (mid : Int)) = false := decide_eq_false (by simp only [d5r] at *; omega)
    simp only [d1, d2, Bool.and_false, a0d, d4Y, if_false]
    exact .some ⟨rfl, A1, by simp, sA.1, by simp only [p1]; simp [-bind_some], s1⟩
  ·have e2 : A1 = [] := List.eq_nil_of_length_eq_zero (by omega)
   subst e2
   have d1 : decide (((P.length : Nat) : Int) < (k : Int)) = false := decide_eq_false (by simp only [d5r] at *; omega)
   simp only [d1, Bool.false_and, a0d, d4Y, if_false]
   exact .some ⟨rfl, B1, by simp, sB.1, by simp only [p1]; simp [-bind_some], s1⟩
 rintro ⟨ex, ds, g2⟩ ⟨rfl, C1, r1, r2, p2, s2⟩
 have lC1 : C1.length = A1.length + B1.length := by rw [r1.length_eq]; simp [-bind_some]
 simp only [a0o, bs, d4X, a0j, b1j]
 -- the second half
 refine Wp.bind (P := fun r => r.1 = .nrm ∧ ∃ C2 : List (Str × Str), C2.Perm (A2 ++ B2) ∧ C2.Pairwise S ∧ r.2.2[o]? = some (.row a0w 2 ((P ++ (C1 ++ C2) ++ Q).map fld)) ∧ Same o g' r.2.2) ?_ ?_
 ·by_cases c1 : 0 < A2.length
  ·have d1 : decide ((mid : Int) < ((mm + B1.length : Nat) : Int)) = true := decide_eq_true (by omega)
   by_cases c2 : 0 < B2.length
   ·have d2 : decide (((mm + B1.length : Nat) : Int) < (bb : Int)) = true := decide_eq_true (by omega)
    simp only [d1, d2, Bool.and_self, a0d, if_true]
    refine Wp.bind (ih g2 (P ++ C1) A2 B2 Q _ _ _ (by omega) (by simp only [d5c]; omega) c1 c2 sA.2.1 sB.2.1 (fun x hx y hy => hp x (by simp [-bind_some, hx]) y (by simp [-bind_some, hy])) (by rw [p2]; simp [-bind_some]) (by simp only [d5c]; omega) (by simp only [d5c]; omega) (by simp only [d5c]; omega)) ?_
    rintro ⟨d, g3⟩ ⟨C, q1, q2, q3, q4⟩
    exact .some ⟨rfl, C, q1, q2, by rw [q3]; simp [-bind_some], s2.trans q4⟩
   ·have e2 : B2 = [] := List.eq_nil_of_length_eq_zero (by omega)
    subst e2
    have d2 : decide (((mm + B1.length : Nat) : Int) < (bb : Int)) = false := decide_eq_false (by simp only [d5r] at *; omega)
    simp only [d1, d2, Bool.and_false, a0d, d4Y, if_false]
    exact .some ⟨rfl, A2, by simp, sA.2.1, by simp only [p2]; simp [-bind_some], s2⟩
  ·have e2 : A2 = [] := List.eq_nil_of_length_eq_zero (by omega)
   subst e2
   have d1 : decide ((mid : Int) < ((mm + B1.length : Nat) : Int)) = false := decide_eq_false (by simp only [d5r] at *; omega)
   simp only [d1, Bool.false_and, a0d, d4Y, if_false]
   exact .some ⟨rfl, B2, by simp, sB.2.1, by simp only [p2]; simp [-bind_some], s2⟩
 rintro ⟨ex, ds, g3⟩ ⟨rfl, C2, r3, r4, p3, s3⟩
 simp only [a2E, bs]
 obtain ⟨v1, v2⟩ := c5a od (List.pairwise_append.2 sA) (List.pairwise_append.2 sB) hp h1 h2 r1 r2 r3 r4
 exact .some ⟨C1 ++ C2, v1, v2, p3, s3⟩
theorem c2B {c : Str × Str → Str × Str → Int} {S Pre : Str × Str → Str × Str → Prop} (od : SOrd c S Pre) {cmp : D} (hcmp : b9N cmp c) {o N : Nat} (hN : N ≤ 1000000000) : ∀ n, b4M c S Pre cmp o N n
 | 0 => fun g P A B Q a m b h0 _ h1 => by omega
 | n + 1 => fun g P A B Q a m b h0 hlen hA hB sA sB hp ho ha hm hb => by
  have ih := c2B od hcmp (o := o) hN n
  have hl := hlen
  simp only [d5c] at hl
  by_cases c1 : A.length = 1
  ·obtain ⟨x, rfl⟩ := List.length_eq_one_iff.1 c1
   have := c6z (g := g) (o := o) (N := N) (P := P) (B := B) (Q := Q) (x := x) hN (by simpa using hlen) (by simpa using ho) cmp c hcmp a m b ha (by rw [hm]; rfl) (by rw [hb]; rfl) (f := some) (R1 := fun p => ∃ C : List (Str × Str), C.Perm ([x] ++ B) ∧ C.Pairwise S ∧ p.2[o]? = some (.row a0w 2 ((P ++ C ++ Q).map fld)) ∧ Same o g p.2)
    (fun g' B1 B2 e h1 h2 p1 s1 => .some ⟨B1 ++ x :: B2, by rw [e]; exact List.perm_middle, by
     subst e
     rw [List.pairwise_append] at sB ⊢
     refine ⟨sB.1, List.pairwise_cons.2 ⟨?_, sB.2.1⟩, ?_⟩
     ·rcases h2 with rfl | ⟨y, r, rfl, hy⟩
      ·intro z hz; cases hz
      ·have hxy := od.ge x y (hp x (by simp) y (by simp)) hy
       intro z hz
       rcases d5u.1 hz with rfl | hz
       ·exact hxy
       ·exact od.tr _ _ _ hxy ((List.pairwise_cons.1 sB.2.1).1 z hz)
     ·have hx1 : ∀ u ∈ B1, S u x := by
        rcases h1 with rfl | ⟨y, r, rfl, hy⟩
        ·intro z hz; cases hz
        ·have hyx := od.lt x y (hp x (by simp) y (by simp)) hy
         intro z hz
         rcases d5v.1 hz with hz | hz
         ·exact od.tr _ _ _ ((List.pairwise_append.1 sB.1).2.2 z hz y (by simp)) hyx
         ·simp at hz; subst hz; exact hyx
      intro u hu v hv
      rcases d5u.1 hv with rfl | hv
      ·exact hx1 u hu
      ·exact sB.2.2 u hu v hv, by rw [p1], s1⟩)
   rwa [show ∀ x : Option (D × Hp), x.bind some = x from fun x => by cases x <;> rfl] at this
  ·by_cases c2 : B.length = 1
   ·obtain ⟨x, rfl⟩ := List.length_eq_one_iff.1 c2
    have := c6A (g := g) (o := o) (N := N) (P := P) (A := A) (Q := Q) (x := x) hN (by simpa using hlen) c1 (by simpa using ho) cmp c hcmp a m b ha (by rw [hm]) (by rw [hb]; rfl) (f := some) (R1 := fun p => ∃ C : List (Str × Str), C.Perm (A ++ [x]) ∧ C.Pairwise S ∧ p.2[o]? = some (.row a0w 2 ((P ++ C ++ Q).map fld)) ∧ Same o g p.2)
     (fun g' A1 A2 e h1 h2 p1 s1 => .some ⟨A1 ++ x :: A2, by rw [e]; exact List.perm_middle.trans (by simpa using (List.perm_append_comm (l₁ := [x]) (l₂ := A1 ++ A2))), c0A od (by rw [← e]; exact sA) (fun y hy => hp y (by rw [e]; exact hy) x (by simp)) h2 h1, by rw [p1], s1⟩)
    rwa [show ∀ x : Option (D × Hp), x.bind some = x from fun x => by cases x <;> rfl] at this
   ·have r := c6B od hcmp hN ih h0 hlen hA hB sA sB hp ho ha hm hb
    rw [c1x]
    have v1 : IntKind.wrap .i64 (m - a) = (A.length : Int) := by rw [hm, ha, wrap_i64 (by omega) (by omega)]; omega
    have v2 : IntKind.wrap .i64 (b - m) = (B.length : Int) := by rw [hm, hb, wrap_i64 (by omega) (by omega)]; omega
    have d1 : decide ((A.length : Int) = 1) = false := decide_eq_false (by omega)
    have d2 : decide ((B.length : Int) = 1) = false := decide_eq_false (by omega)
    simp only [b8t, a5u, bs, a0B, v1, v2, a0R, d1, d2, a0d, d4Y, if_false]
    exact r
theorem Blk.len {α : Type} {S Pre : α → α → Prop} {k : Nat} {l : List α} (h : Blk S Pre k l) (hl : l.length < k) : l.Pairwise S := h.all (by omega)
theorem b7o {α : Type} {Pre : α → α → Prop} {A B : List α} (h : (A ++ B).Pairwise Pre) : A.Pairwise Pre ∧ B.Pairwise Pre ∧ ∀ x ∈ A, ∀ y ∈ B, Pre x y := List.pairwise_append.1 h
theorem c0l {c : Str × Str → Str × Str → Int} {S Pre : Str × Str → Str × Str → Prop} (od : SOrd c S Pre) {cmp : D} (hcmp : b9N cmp c) {o N : Nat} (hN : N ≤ 1000000000) {g : Hp} {P A Q : List (Str × Str)} (hlen : (P ++ A ++ Q).length = N) (hA : A.Pairwise Pre)
  (ho : g[o]? = some (.row a0w 2 ((P ++ A ++ Q).map fld))) (a b : Int) (ha : a = P.length) (hb : b = (P.length + A.length : Nat)) :
  Wp (R a7u [.msl 2 o 0 N, .int .i64 a, .int .i64 b, cmp] g) fun p => ∃ C : List (Str × Str), C.Perm A ∧ C.Pairwise S ∧ p.2[o]? = some (.row a0w 2 ((P ++ C ++ Q).map fld)) ∧ Same o g p.2 := by
 subst ha hb
 have hl := hlen
 simp only [d5c] at hl
 obtain ⟨d, h', e, p1, s1⟩ := d1u c cmp hcmp o N P.length (P.length + A.length) hN (by omega) (by omega) _ hlen g ho
 refine ⟨(d, h'), e, ?_⟩
 cases A with
 | nil =>
  refine ⟨[], by simp, List.Pairwise.nil, ?_, s1⟩
  rw [p1]
  simp [-bind_some, isr]
 | cons x A =>
  obtain ⟨C, q1, q2, q3⟩ := b6t od P Q A [x] (by simp) (fun u hu v hv => by simp at hu; subst hu; exact (List.pairwise_cons.1 hA).1 v hv) (List.pairwise_cons.1 hA).2
  refine ⟨C, q2, q3, ?_, s1⟩
  rw [p1]
  have e1 : P.length + (x :: A).length - (P.length + 1) = A.length := by simp; omega
  rw [e1]
  have e2 : P ++ x :: A ++ Q = P ++ [x] ++ A ++ Q := by simp
  rw [e2]
  exact congrArg (fun z : List (Str × Str) => some (Ob.row a0w 2 (z.map fld))) q1
theorem d2f {c : Str × Str → Str × Str → Int} {S Pre : Str × Str → Str × Str → Prop} (od : SOrd c S Pre) {cmp : D} (hcmp : b9N cmp c) {o N : Nat} (hN : N ≤ 1000000000) {g : Hp} {l : List (Str × Str)} (hl : l.length = N) (hpre : l.Pairwise Pre)
  (ho : g[o]? = some (.row a0w 2 (l.map fld))) : Wp (R b3c [.msl 2 o 0 N, .int .i64 N, cmp] g) fun p => ∃ C : List (Str × Str), C.Perm l ∧ C.Pairwise S ∧ p.2[o]? = some (.row a0w 2 (C.map fld)) ∧ Same o g p.2 := by
 rw [c4L]
 simp only [c0Y, bs, d4X]
 refine Wp.loop (fun n ds g' => ∃ u, ∃ X Y : List (Str × Str), ds = [.int .i64 (X.length : Nat), .int .i64 ((X.length + 20 : Nat) : Int), u] ∧ n = Y.length ∧ (X ++ Y).Perm l ∧ Y.Pairwise Pre ∧ CtxB S Pre 20 X Y ∧ g'[o]? = some (.row a0w 2 ((X ++ Y).map fld)) ∧ Same o g g')
  (fun r => r.1 = .ext 0 ∧ ∃ u, ∃ X Y : List (Str × Str), r.2.1 = [.int .i64 (X.length : Nat), .int .i64 ((X.length + 20 : Nat) : Int), u] ∧ Y.length < 20 ∧ (X ++ Y).Perm l ∧ Y.Pairwise Pre ∧ CtxB S Pre 20 X Y ∧ r.2.2[o]? = some (.row a0w 2 ((X ++ Y).map fld)) ∧ Same o g r.2.2)
  l.length ⟨_, [], l, rfl, rfl, by simp, hpre, CtxB.nil, by simpa using ho, .refl _ _⟩ ?_ ?_
 ·rintro n ds g' ⟨u, X, Y, rfl, rfl, hp, hY, hc, ho', sm⟩
  have hXY : X.length + Y.length = N := by rw [← hl, ← hp.length_eq]; simp [-bind_some]
  simp only [a8I, a0f, a0n, bs, d4X, a1E]
  refine Wp.dif ?_ ?_
  ·intro h0
   have h0 : 20 ≤ Y.length := by
    have : ((X.length + 20 : Nat) : Int) ≤ (N : Int) := by simpa using h0
    omega
   obtain ⟨A, Y', rfl, hA⟩ : ∃ A Y', Y = A ++ Y' ∧ A.length = 20 := ⟨Y.take 20, Y.drop 20, (List.take_append_drop _ _).symm, by simp; omega⟩
   obtain ⟨y1, y2, y3⟩ := b7o hY
   simp only [d5c] at hXY h0
   refine Wp.bind (c0l od hcmp hN (P := X) (A := A) (Q := Y') (by simp only [d5c]; omega) y1 (by rw [ho']; simp [-bind_some]) _ _ rfl (by omega)) ?_
   rintro ⟨d, g2⟩ ⟨C, q1, q2, q3, q4⟩
   have lC : C.length = 20 := by rw [q1.length_eq, hA]
   have w1 : IntKind.wrap .i64 (((X.length + 20 : Nat) : Int) + 20) = ((X.length + 20 + 20 : Nat) : Int) := by rw [wrap_i64 (by omega) (by omega)]; omega
   simp only [a0u, w1, bs]
   have eX : (X ++ C).length = X.length + 20 := by simp [-bind_some, lC]
   refine .some (.inl ⟨rfl, Y'.length, by simp only [d5c]; omega, _, X ++ C, Y', by rw [eX], rfl, ?_, y2, hc.step q1 lC q2 y3, q3, sm.trans q4⟩)
   refine List.Perm.trans ?_ hp
   rw [List.append_assoc]
   exact (q1.append_right Y').append_left X
  ·intro h0
   have h0 : ¬ 20 ≤ Y.length := by
    have : ¬ ((X.length + 20 : Nat) : Int) ≤ (N : Int) := by simpa using h0
    omega
   exact .some (.inr ⟨by simp, rfl, _, X, Y, rfl, by omega, hp, hY, hc, ho', sm⟩)
 rintro ⟨ex, ds, g1⟩ ⟨rfl, u, X, Y, rfl, hYl, hp, hY, hc, ho1, s1⟩
 have hXY : X.length + Y.length = N := by rw [← hl, ← hp.length_eq]; simp [-bind_some]
 simp only [a0l, a0o, a0f, a0n, bs]
 refine Wp.bind (c0l od hcmp hN (P := X) (A := Y) (Q := []) (by simp only [d5c, d5r]; omega) hY (by simpa using ho1) _ _ rfl (by omega)) ?_
 rintro ⟨d, g2⟩ ⟨C, q1, q2, q3, q4⟩
 have bl : Blk S Pre 20 (X ++ C) := hc.done q1 (by rw [q1.length_eq]; omega) q2
 have hpZ : (X ++ C).Perm l := (q1.append_left X).trans hp
 have q3 : g2[o]? = some (.row a0w 2 ((X ++ C).map fld)) := by simpa using q3
 have s2 : Same o g g2 := s1.trans q4
 generalize X ++ C = Z at bl hpZ q3
 clear q1 q2 hc hY ho1 s1 q4
 simp only [bs, d4X]
 refine Wp.loop (fun n ds g' => ∃ u1 u2 u3 u4 u5 u6, ∃ k : Nat, ∃ Z : List (Str × Str), ds = [.int .i64 (k : Int), u1, u2, u3, u4, u5, u6] ∧ n = N - k ∧ 0 < k ∧ k ≤ 2000000000 ∧ Z.Perm l ∧ Blk S Pre k Z ∧ g'[o]? = some (.row a0w 2 (Z.map fld)) ∧ Same o g g')
  (fun r => r.1 = .ext 2 ∧ ∃ u1 u2 u3 u4 u5 u6 u7, r.2.1 = [u1, u2, u3, u4, u5, u6, u7] ∧ ∃ Z : List (Str × Str), Z.Perm l ∧ Z.Pairwise S ∧ r.2.2[o]? = some (.row a0w 2 (Z.map fld)) ∧ Same o g r.2.2)
  (N - 20) ⟨_, _, _, _, _, _, 20, Z, rfl, rfl, by omega, by omega, hpZ, bl, q3, s2⟩ ?_ ?_
 ·clear q3 s2 bl hpZ Z hXY hp
  rintro n ds g3 ⟨u1, u2, u3, u4, u5, u6, k, Z, rfl, rfl, k0, k1, hp, bl, ho3, s3⟩
  have lZ : Z.length = N := by rw [hp.length_eq, hl]
  simp only [a8J, a0f, a0n, bs, d4X, a0j]
  refine Wp.dif ?_ ?_
  ·intro h0
   have h0 : k < N := by
    have : (k : Int) < (N : Int) := by simpa using h0
    omega
   have w1 : IntKind.wrap .i64 ((2 : Int) * (k : Int)) = ((2 * k : Nat) : Int) := by rw [wrap_i64 (by omega) (by omega)]; omega
   simp only [a3j, w1, bs, d4X]
   refine Wp.loop (fun n ds g' => ∃ u, ∃ X Y : List (Str × Str), ds = [.int .i64 (X.length : Nat), .int .i64 ((X.length + 2 * k : Nat) : Int), u] ∧ n = Y.length ∧ (X ++ Y).Perm l ∧ Blk S Pre k Y ∧ CtxB S Pre (2 * k) X Y ∧ g'[o]? = some (.row a0w 2 ((X ++ Y).map fld)) ∧ Same o g g')
    (fun r => r.1 = .ext 4 ∧ ∃ u v, ∃ X Y : List (Str × Str), r.2.1 = [.int .i64 (X.length : Nat), u, v] ∧ Y.length < 2 * k ∧ (X ++ Y).Perm l ∧ Blk S Pre k Y ∧ CtxB S Pre (2 * k) X Y ∧ r.2.2[o]? = some (.row a0w 2 ((X ++ Y).map fld)) ∧ Same o g r.2.2)
    N ⟨u5, [], Z, by simp, lZ.symm, by simpa using hp, bl, CtxB.nil, by simpa using ho3, s3⟩ ?_ ?_
   ·rintro n ds g4 ⟨u, X, Y, rfl, rfl, hp4, bl4, hc4, ho4, s4⟩
    have hXY : X.length + Y.length = N := by rw [← hl, ← hp4.length_eq]; simp [-bind_some]
    simp only [b2k, a0f, a0n, bs, d4X, a1E]
    refine Wp.dif ?_ ?_
    ·intro h1
     have h1 : 2 * k ≤ Y.length := by
      have : ((X.length + 2 * k : Nat) : Int) ≤ (N : Int) := by simpa using h1
      omega
     obtain ⟨A, Y1, rfl, lA, sA, pA, bY1⟩ := bl4.fst (by omega)
     simp only [d5c] at hXY h1
     obtain ⟨B, Y2, rfl, lB, sB, pB, bY2⟩ := bY1.fst (by omega)
     simp only [d5c] at hXY h1
     have w2 : IntKind.wrap .i64 ((X.length : Int) + (k : Int)) = ((X.length + A.length : Nat) : Int) := by rw [wrap_i64 (by omega) (by omega)]; omega
     simp only [a0u, w2, bs, d4X]
     refine Wp.bind (c2B od hcmp hN (A.length + B.length) g4 X A B Y2 _ _ _ (Nat.le_refl _) (by simp only [d5c]; omega) (by omega) (by omega) sA sB (fun x hx y hy => pA x hx y (by simp [-bind_some, hy])) (by rw [ho4]; simp [-bind_some]) rfl rfl (by omega)) ?_
     rintro ⟨d, g5⟩ ⟨C, q1, q2, q3, q4⟩
     have lC : C.length = 2 * k := by rw [q1.length_eq, d5c]; omega
     have w3 : IntKind.wrap .i64 (((X.length + 2 * k : Nat) : Int) + ((2 * k : Nat) : Int)) = ((X.length + 2 * k + 2 * k : Nat) : Int) := by rw [wrap_i64 (by omega) (by omega)]; omega
     simp only [a3j, a0u, w1, w3, bs]
     have eX : (X ++ C).length = X.length + 2 * k := by simp [-bind_some, lC]
     refine .some (.inl ⟨rfl, Y2.length, by simp only [d5c]; omega, _, X ++ C, Y2, by rw [eX], rfl, ?_, bY2, CtxB.step (A := A ++ B) (by rw [List.append_assoc]; exact hc4) q1 lC q2 (fun x hx y hy => ?_), q3, s4.trans q4⟩)
     ·refine List.Perm.trans ?_ hp4
      rw [List.append_assoc, ← List.append_assoc A B Y2]
      exact (q1.append_right Y2).append_left X
     ·rcases d5v.1 hx with hx | hx
      ·exact pA x hx y (by simp [-bind_some, hy])
      ·exact pB x hx y hy
    ·intro h1
     have h1 : ¬ 2 * k ≤ Y.length := by
      have : ¬ ((X.length + 2 * k : Nat) : Int) ≤ (N : Int) := by simpa using h1
      omega
     exact .some (.inr ⟨by simp, rfl, _, _, X, Y, rfl, by omega, hp4, bl4, hc4, ho4, s4⟩)
   rintro ⟨ex, ds, g4⟩ ⟨rfl, u, v, X, Y, rfl, hYl, hp4, bl4, hc4, ho4, s4⟩
   have hXY : X.length + Y.length = N := by rw [← hl, ← hp4.length_eq]; simp [-bind_some]
   have w2 : IntKind.wrap .i64 ((X.length : Int) + (k : Int)) = ((X.length + k : Nat) : Int) := by rw [wrap_i64 (by omega) (by omega)]; omega
   have w4 : IntKind.wrap .i64 ((k : Int) * 2) = ((2 * k : Nat) : Int) := by rw [wrap_i64 (by omega) (by omega)]; omega
   simp only [a0l, a0o, a0f, a0n, bs, a0u, w2, a0j, d4X]
   refine Wp.bind (P := fun r => r.1 = .nrm ∧ ∃ Z : List (Str × Str), Z.Perm l ∧ Blk S Pre (2 * k) Z ∧ r.2.2[o]? = some (.row a0w 2 (Z.map fld)) ∧ Same o g r.2.2) ?_ ?_
   ·by_cases hm : X.length + k < N
    ·have d1 : decide (((X.length + k : Nat) : Int) < (N : Int)) = true := decide_eq_true (by omega)
     obtain ⟨A, B, rfl, lA, sA, pA, bB⟩ := bl4.fst (by omega)
     simp only [d5c] at hXY hYl
     have sB : B.Pairwise S := bB.all (by omega)
     simp only [d1, a0d, if_true]
     refine Wp.bind (c2B od hcmp hN (A.length + B.length) g4 X A B [] _ _ _ (Nat.le_refl _) (by simp only [d5c, d5r]; omega) (by omega) (by omega) sA sB pA (by rw [ho4]; simp [-bind_some]) rfl (by omega) (by omega)) ?_
     rintro ⟨d, g5⟩ ⟨C, q1, q2, q3, q4⟩
     refine .some ⟨rfl, X ++ C, (q1.append_left X).trans hp4, hc4.done q1 (by rw [q1.length_eq, d5c]; omega) q2, by simpa using q3, s4.trans q4⟩
    ·have d1 : decide (((X.length + k : Nat) : Int) < (N : Int)) = false := decide_eq_false (by omega)
     simp only [d1, a0d, d4Y, if_false]
     exact .some ⟨rfl, X ++ Y, hp4, hc4.done (List.Perm.refl _) (by omega) (bl4.all (by omega)), ho4, s4⟩
   rintro ⟨ex, ds, g5⟩ ⟨rfl, Z2, hp5, bl5, ho5, s5⟩
   simp only [a0o, bs, w4]
   exact .some (.inl ⟨rfl, N - 2 * k, by omega, _, _, _, _, _, _, 2 * k, Z2, rfl, rfl, by omega, by omega, hp5, bl5, ho5, s5⟩)
  ·intro h0
   have h0 : ¬ k < N := by
    have : ¬ (k : Int) < (N : Int) := by simpa using h0
    omega
   exact .some (.inr ⟨by simp, rfl, _, _, _, _, _, _, _, rfl, Z, hp, bl.all (by omega), ho3, s3⟩)
 rintro ⟨ex, ds, g3⟩ ⟨rfl, u1, u2, u3, u4, u5, u6, u7, rfl, Z3, hp3, sZ, ho3, s3⟩
 simp only [a0l, a2E, bs]
 exact .some ⟨Z3, hp3, sZ, ho3, s3⟩
def leS (x y : Str × Str) : Prop := ¬ cF y x < 0
theorem a7A (x y : Str × Str) : leS x y ↔ Op.bytesLess y.1 x.1 = false := by
 unfold leS cF
 rw [b1n]
 simp [-bind_some]
theorem c5s {x y z : Str × Str} (h : leS x y) (k : leS y z) : leS x z := by
 rw [a7A] at *
 cases hh : Op.bytesLess z.1 x.1
 ·rfl
 ·by_cases he : y.1 = x.1
  ·rw [he, hh] at k; cases k
  ·have := b4P hh (a9S h he)
   rw [this] at k; cases k
theorem c0o : SOrd cF leS (fun _ _ => True) where
 tr := fun x y z => c5s
 lt := fun x y _ h => by
  unfold leS
  intro h2
  unfold cF at h h2
  rw [b1n] at h h2
  have := b4P h h2
  rw [a9R] at this
  cases this
 ge := fun x y _ h => h
theorem b3v {x y : Str × Str} (h : leS x y) (k : leS y x) : x.1 = y.1 := by
 rw [a7A] at h k
 apply Classical.byContradiction
 intro hn
 have := a9S k hn
 rw [this] at h; cases h
theorem a3I : ∀ {C : List (Str × Str)}, C.Pairwise leS → (a8V C = false ↔ (C.map Prod.fst).Nodup)
 | [], _ => by simp [-bind_some, a8V]
 | [x], _ => by simp [-bind_some, a8V]
 | x :: y :: r, h => by
  have ih := a3I (C := y :: r) (List.pairwise_cons.1 h).2
  have hx := (List.pairwise_cons.1 h).1
  have hy := (List.pairwise_cons.1 (List.pairwise_cons.1 h).2).1
  rw [d5f, List.nodup_cons]
  unfold a8V
  rw [Bool.or_eq_false_iff, ih]
  constructor
  ·rintro ⟨h1, h2⟩
   refine ⟨fun hm => ?_, h2⟩
   have h1 : y.1 ≠ x.1 := by simpa using h1
   obtain ⟨z, hz, hzx⟩ := d5w.1 hm
   rcases d5u.1 hz with rfl | hz
   ·exact h1 hzx
   ·have h3 : leS y x := by
      have := hy z hz
      rw [a7A] at this ⊢
      rw [← hzx]; exact this
    exact h1 (b3v h3 (hx y (by simp)))
  ·rintro ⟨h1, h2⟩
   refine ⟨?_, h2⟩
   have : y.1 ≠ x.1 := fun hh => h1 (by rw [d5f, hh]; simp [-bind_some])
   simpa using this
theorem a7I : ∀ {C E : List (Str × Str)}, C.Pairwise leS → E.Pairwise leS → C.Perm E → (C.map Prod.fst).Nodup → C = E
 | [], E, _, _, hp, _ => by rw [List.nil_perm.1 hp]
 | x :: C, [], _, _, hp, _ => by cases List.perm_nil.1 hp
 | x :: C, y :: E, hC, hE, hp, hn => by
  rw [List.pairwise_cons] at hC hE
  rw [d5f, List.nodup_cons] at hn
  have hxy : x = y := by
   apply Classical.byContradiction
   intro hne
   have hx : x ∈ E := by
    have : x ∈ y :: E := hp.mem_iff.1 (by simp)
    rcases d5u.1 this with h | h
    ·exact absurd h hne
    ·exact h
   have hy : y ∈ C := by
    have : y ∈ x :: C := hp.mem_iff.2 (by simp)
    rcases d5u.1 this with h | h
    ·exact absurd h.symm hne
    ·exact h
   have := b3v (hC.1 y hy) (hE.1 x hx)
   exact hn.1 (by rw [this]; exact d5w.2 ⟨y, hy, rfl⟩)
  subst hxy
  rw [a7I hC.2 hE.2 ((List.perm_cons x).1 hp) hn.2]
theorem c0K (l : List (Str × Str)) : (srt l).Perm l ∧ (srt l).Pairwise leS := by
 cases l with
 | nil => exact ⟨by simp [-bind_some, srt, isr], by simp [-bind_some, srt, isr]⟩
 | cons x B =>
  obtain ⟨C, q1, q2, q3⟩ := b6t c0o [] [] B [x] (by simp) (fun _ _ _ _ => trivial) (List.Pairwise.imp (fun _ => trivial) (List.pairwise_of_forall (l := B) (R := fun _ _ => True) (fun _ _ => trivial)))
  have e : srt (x :: B) = C := by
   unfold srt
   have : (x :: B).length - 1 = B.length := by simp
   rw [this]
   simpa using q1
  rw [e]
  exact ⟨by simpa using q2, q3⟩
theorem b3R {C l : List (Str × Str)} (hp : C.Perm l) (hs : C.Pairwise leS) : a8V C = a8V (srt l) ∧ (a8V C = false → C = srt l) := by
 obtain ⟨h1, h2⟩ := c0K l
 have hq : C.Perm (srt l) := hp.trans h1.symm
 have hn : (C.map Prod.fst).Nodup ↔ ((srt l).map Prod.fst).Nodup := (hq.map Prod.fst).nodup_iff
 have a1 := a3I hs
 have a2 := a3I h2
 refine ⟨?_, fun h => a7I hs h2 hq (a1.1 h)⟩
 cases hC : a8V C <;> cases hS : a8V (srt l)
 ·rfl
 ·have := a2.2 (hn.1 (a1.1 hC)); rw [this] at hS; cases hS
 ·have := a1.2 (hn.2 (a2.1 hS)); rw [this] at hC; cases hC
 ·rfl
theorem d2e {cmp : D} (hcmp : b9N cmp cF) {o N : Nat} (hN : N ≤ 1000000000) {g : Hp} {l : List (Str × Str)} (hl : l.length = N) (ho : g[o]? = some (.row a0w 2 (l.map fld))) :
  ∃ d g', ∃ C : List (Str × Str), R b0t [.msl 2 o 0 N, cmp] g = some (d, g') ∧ C.Perm l ∧ C.Pairwise leS ∧ g'[o]? = some (.row a0w 2 (C.map fld)) ∧ Same o g g' := by
 obtain ⟨⟨d, g'⟩, e, C, q1, q2, q3, q4⟩ := d2f c0o hcmp hN hl (List.pairwise_of_forall fun _ _ => trivial) ho
 refine ⟨a0i [], g', C, ?_, q1, q2, q3, q4⟩
 rw [c4K]
 simp only [c0X, bs, c0p, e]
theorem c6d (l : List (Str × Str)) (d : D) (h : Hp) (hd : SlOf 2 fld l d) : ∃ d' h', R b0r [d] h = some (.tup [d', .int .i64 (a1N l).1], h') ∧ h.length ≤ h'.length ∧ (∀ q, q < h.length → h'[q]? = h[q]?) ∧ ((a1N l).1 = 0 → RdF h' (a1N l).2 d') := by
 suffices Wp (R b0r [d] h) (fun p => ∃ d', p.1 = .tup [d', .int .i64 (a1N l).1] ∧ h.length ≤ p.2.length ∧ (∀ q, q < h.length → p.2[q]? = h[q]?) ∧ ((a1N l).1 = 0 → RdF p.2 (a1N l).2 d')) by
  obtain ⟨⟨x, h'⟩, h1, d', rfl, h2⟩ := this
  exact ⟨d', h', h1, h2⟩
 rw [c7V]
 by_cases h32n : 32 < l.length
 ·have h32 : (32 : Int) < (l.length : Int) := by omega
  have hs : a1N l = (4, []) := by simp only [a1N, h32n, if_true]
  rw [hs]
  simp only [c0W, bs, d4X, a1W hd, a0v, h32, decide_true, a0d, if_true, a0S]
  exact .some ⟨.nils, rfl, Nat.le_refl _, fun _ _ => rfl, fun hh => by cases hh⟩
 have h32 : ¬ (32 : Int) < (l.length : Int) := by omega
 simp only [c0W, bs, d4X, a1W hd, a0v, h32, decide_false, a0d, d4Y, if_false]
 refine c5m l d h hd (by omega) _ _ _ _ _ (fun hv x y z w => ?_) (fun hv x y z w => ?_)
 ·simp only [a0l, a0o, a0f, a0n, bs]
  obtain ⟨d1, h1, e1, hl1, hb1, hd1⟩ := d2b l d h hd (by omega)
  simp only [e1, bs]
  have hsrt : ∃ x h2, ∃ C : List (Str × Str), R b0t [d1, .fn (.func a7t) [] []] h1 = some (x, h2) ∧ h.length ≤ h2.length ∧ (∀ q, q < h.length → h2[q]? = h[q]?) ∧ C.Perm l ∧ C.Pairwise leS ∧ RdF h2 C d1 := by
   rcases hd1 with ⟨rfl, hd1⟩ | ⟨ob, hob, rfl, ho⟩
   ·obtain ⟨x, hx⟩ := c6e d1 (.fn (.func a7t) [] []) h1 hd1
    exact ⟨x, h1, [], hx, hl1, hb1, List.Perm.refl _, List.Pairwise.nil, .inl hd1⟩
   ·obtain ⟨x, h2, C, q1, q2, q3, q4, q5⟩ := d2e (cmp := .fn (.func a7t) [] []) (fun x y g => c7j x y g) (o := ob) (N := l.length) (by omega) rfl ho
    refine ⟨x, h2, C, q1, by have := q5.1; omega, fun q hq => (q5.2 q (by omega)).trans (hb1 q hq), q2, q3, .inr ⟨ob, by rw [q2.length_eq], q4⟩⟩
  obtain ⟨u, h2, C, e2, hl2, hb2, hpC, hsC, hr⟩ := hsrt
  obtain ⟨ad, un⟩ := b3R hpC hsC
  simp only [e2, bs]
  refine c5n C d1 h2 hr (by rw [hpC.length_eq]; omega) _ _ _ _ (fun ha x y z => ?_) (fun ha x y z => ?_)
  ·have hs : a1N l = (0, srt l) := by simp only [a1N, h32n, if_false, hv, if_true, ← ad, ha, d4Y]
   rw [hs]
   simp only [a0l, a0o, bs, a0S]
   exact .some ⟨d1, rfl, hl2, hb2, fun _ => by rw [← un ha]; exact hr⟩
  ·have hs : a1N l = (7, []) := by simp only [a1N, h32n, if_false, hv, if_true, ← ad, ha]
   rw [hs]
   simp only [a1J, a1I, a1H, a0f, a0n, bs, a0S]
   exact .some ⟨.nils, rfl, hl2, hb2, fun hh => by cases hh⟩
 ·have hs : a1N l = (6, []) := by simp only [a1N, h32n, if_false, hv]; rfl
  rw [hs]
  simp only [a1J, a1I, a1H, a0f, a0n, bs, a0S]
  exact .some ⟨.nils, rfl, Nat.le_refl _, fun _ _ => rfl, fun hh => by cases hh⟩
theorem c6a (e : Ev) (h : Hp) : R b0p [.agg (evr e)] h = some (.int .i64 (evE e), h) := c5Z e h fun p => c6d e.fs e.fd p e.hfd
theorem b7I (i : It) (h : Hp) : R a5P [.agg (itr i)] h = some (.int .i64 (itE i), h) := c5Y i h (c6a i.e h)
structure Rw where
 k : List Str
 kd : D
 hk : SlOf 1 (fun s => [D.str s]) k kd
 hkl : k.length ≤ 1000000
 n : List Int
 nd : D
 hn : SlOf 1 inr n nd
 hnl : n.length ≤ 1000000
 er : Int
theorem a3y {α : Type} {l : List α} {i : Nat} {x : α} (h : l[i]? = some x) : l.drop i = x :: l.drop (i + 1) := by
 obtain ⟨hn, hh⟩ := d5p.1 h
 rw [List.drop_eq_getElem_cons hn, hh]
def rwa : Rw := ⟨[], .nils, .nils _ _, by simp, [1], .sl 1 true [[.int .i64 1]], .inr ⟨true, rfl⟩, by simp, 0⟩
theorem c0F (e : Ev) (h : Hp) : R b2V [.agg (evr e)] h = some (.int .i64 (if plB e = true then 0 else 2), h) := by
 rw [c7w]
 simp only [c3a, a1b, bs, evr, a4W, a4X, a4f, a2d, ld3, a0j, a0v, a1E]
 by_cases g1 : e.a0 < 0
 ·have hp : plB e = false := by
    cases hh : plB e
    ·rfl
    ·simp [-bind_some, plB] at hh; omega
  simp only [g1, hp, decide_true, decide_false, a0r, a1f, reduceCtorEq, d4Z, d4Y, if_true, if_false, bs, a4W, a4X, a4f, a2d, ld3, a0j, a0v, a1E, a0e, a0d, a0g]
 by_cases g2 : 999 < e.a0
 ·have hp : plB e = false := by
    cases hh : plB e
    ·rfl
    ·simp [-bind_some, plB] at hh; omega
  simp only [g1, g2, hp, decide_true, decide_false, a0r, a1f, reduceCtorEq, d4Z, d4Y, if_true, if_false, bs, a4W, a4X, a4f, a2d, ld3, a0j, a0v, a1E, a0e, a0d, a0g]
 by_cases g3 : e.a1 < 0
 ·have hp : plB e = false := by
    cases hh : plB e
    ·rfl
    ·simp [-bind_some, plB] at hh; omega
  simp only [g1, g2, g3, hp, decide_true, decide_false, a0r, a1f, reduceCtorEq, d4Z, d4Y, if_true, if_false, bs, a4W, a4X, a4f, a2d, ld3, a0j, a0v, a1E, a0e, a0d, a0g]
 by_cases g4 : 2147483646 < e.a1
 ·have hp : plB e = false := by
    cases hh : plB e
    ·rfl
    ·simp [-bind_some, plB] at hh; omega
  simp only [g1, g2, g3, g4, hp, decide_true, decide_false, a0r, a1f, reduceCtorEq, d4Z, d4Y, if_true, if_false, bs, a4W, a4X, a4f, a2d, ld3, a0j, a0v, a1E, a0e, a0d, a0g]
 by_cases g5 : e.a2 < 0
 ·have hp : plB e = false := by
    cases hh : plB e
    ·rfl
    ·simp [-bind_some, plB] at hh; omega
  simp only [g1, g2, g3, g4, g5, hp, decide_true, decide_false, a0r, a1f, reduceCtorEq, d4Z, d4Y, if_true, if_false, bs, a4W, a4X, a4f, a2d, ld3, a0j, a0v, a1E, a0e, a0d, a0g]
 by_cases g6 : e.a3 ≤ e.a2
 ·have hp : plB e = false := by
    cases hh : plB e
    ·rfl
    ·simp [-bind_some, plB] at hh; omega
  simp only [g1, g2, g3, g4, g5, g6, hp, decide_true, decide_false, a0r, a1f, reduceCtorEq, d4Z, d4Y, if_true, if_false, bs, a4W, a4X, a4f, a2d, ld3, a0j, a0v, a1E, a0e, a0d, a0g]
 by_cases g7 : 60000 < e.a3
 ·have hp : plB e = false := by
    cases hh : plB e
    ·rfl
    ·simp [-bind_some, plB] at hh; omega
  simp only [g1, g2, g3, g4, g5, g6, g7, hp, decide_true, decide_false, a0r, a1f, reduceCtorEq, d4Z, d4Y, if_true, if_false, bs, a4W, a4X, a4f, a2d, ld3, a0j, a0v, a1E, a0e, a0d, a0g]
 have hp : plB e = true := by simp [-bind_some, plB]; omega
 simp only [g1, g2, g3, g4, g5, g6, g7, hp, decide_true, decide_false, a0r, a1f, reduceCtorEq, d4Z, d4Y, if_true, if_false, bs, a4W, a4X, a4f, a2d, ld3, a0j, a0v, a1E, a0e, a0d, a0g]
theorem c5S (w : Int) (h : Hp) : R b5F [.int .i64 w] h = some (.bool (decide (¬ (w < 1 ∨ Int.tmod 5040 w ≠ 0))), h) := by
 rw [c7y]
 simp only [c3c, bs, a2U, a1E]
 by_cases h1 : w < 1
 ·have g1 : ¬ w ≥ 1 := by omega
  simp only [h1, g1, decide_false, a0r, reduceCtorEq, d4Y, if_false, bs, a0e, true_or, not_true, a0g]
 ·have g1 : w ≥ 1 := by omega
  have g0 : ¬ w = 0 := by omega
  by_cases h2 : w ≤ 5040
  ·by_cases h3 : Int.tmod 5040 w = 0
   ·simp only [h1, g1, h2, g0, h3, decide_true, a0r, if_true, if_false, bs, a0e, a3R, a1E, a0R, ne_eq, not_true, or_self, not_false_eq_true, a0g]
   ·simp only [h1, g1, h2, g0, h3, decide_true, decide_false, a0r, if_true, if_false, bs, a0e, a3R, a1E, a0R, ne_eq, not_false_eq_true, or_true, not_true, a0g]
  ·have h3 : ¬ Int.tmod 5040 w = 0 := by
     rw [Int.tmod_eq_emod_of_nonneg (by omega), Int.emod_eq_of_lt (by omega) (by omega)]; omega
   simp only [h1, g1, h2, h3, decide_true, decide_false, a0r, reduceCtorEq, d4Y, if_true, if_false, bs, a1E, a0e, ne_eq, not_false_eq_true, or_true, not_true, a0g]
theorem c0G (e : Ev) (m : Int) (h : Hp) : R b2W [.agg (evr e), .int .i64 m] h = some (.int .i64 (a2g e m), h) := by
 apply Wp.val
 rw [c7x]
 simp only [c3b, a1b, bs, d4X, evr, a5I, a4f, a8p, ld3, a2G e.hld, a0R, a0v]
 by_cases g0 : e.ls.length = 0
 ·have g0' : (e.ls.length : Int) = 0 := by omega
  simp only [g0', decide_true, a0d, if_true, a0g]
  exact .some (by simp [-bind_some, a2g, g0])
 by_cases g4 : 40 < e.ls.length
 ·have g0' : ¬ (e.ls.length : Int) = 0 := by omega
  have g4' : (40 : Int) < (e.ls.length : Int) := by omega
  simp only [g0', g4', decide_true, decide_false, d4Y, if_false, a0d, if_true, a0g]
  exact .some (by simp [-bind_some, a2g, g0, g4])
 have g0' : ¬ (e.ls.length : Int) = 0 := by omega
 have g4' : ¬ (40 : Int) < (e.ls.length : Int) := by omega
 have hE : a2g e m = lnE e.a3 m e.a2 e.ls := by simp [-bind_some, a2g, g0, g4]
 rw [hE]
 generalize hV : lnE e.a3 m e.a2 e.ls = V
 simp only [g0', g4', decide_false, d4Y, if_false, a0d]
 refine Wp.loop (fun k ds g => g = h ∧ ∃ a b c d f, ∃ at_ : Int, ∃ i : Nat, ds = [a, .int .i64 at_, .int .i64 (i : Int), b, c, d, f] ∧ k + i = e.ls.length ∧ lnE e.a3 m at_ (e.ls.drop i) = V)
   (fun x => x.2.2 = h ∧ ((x.1 = .ext 0 ∧ V = 0) ∨ (x.1 = .ret ∧ nth 0 x.2.1 = .int .i64 V))) e.ls.length ⟨rfl, _, _, _, _, _, _, 0, rfl, rfl, hV⟩ ?_ ?_
 ·rintro k ds g ⟨rfl, a, b, c, d, f, at_, i, rfl, hk, hch⟩
  simp only [b2b, a0f, a0n, bs, d4X, a5I, a8p, a2G e.hld, a0j]
  refine Wp.dif ?_ ?_
  ·intro h0
   have h0 : i < e.ls.length := dl_ h0
   have hg : e.ls[i]? = some e.ls[i] := d5o h0
   have hw := wi_ i (by omega)
   have hw4 : IntKind.wrap .i64 ((e.ls.length : Int) - 1) = (e.ls.length : Int) - 1 := wrap_i64 (by omega) (by omega)
   rw [List.drop_eq_getElem_cons h0] at hch
   generalize e.ls[i] = x at hg hch
   have hix : a0b tab a1u e.ld (.int .i64 (i : Int)) = some (.fptr (a1p x)) := by rw [a9u e.hld]; simp [-bind_some, hg]
   have hr : e.ls.drop (i + 1) = [] ↔ (i : Int) = (e.ls.length : Int) - 1 := by
    rw [List.drop_eq_nil_iff]; omega
   have l0 : a0c tab g a1A (.fptr (a1p x)) = some (.agg (a1p x)) := id rfl
   have l1 : a6t 3 (.agg (a1p x)) = some (.fptr (a1p x)) := a3i 3 _ rfl
   have f0 : a0a tab a1A 0 (.fptr (a1p x)) = some (.fptr (a1p x)) := id rfl
   have f1 : a0a tab a1A 1 (.fptr (a1p x)) = some (.fptr [.int .i64 x.len, .str x.txt]) := id rfl
   have f2 : a0a tab a1A 2 (.fptr (a1p x)) = some (.fptr [.str x.txt]) := id rfl
   have k0 : a0c tab g ty3 (.fptr (a1p x)) = some (.int .i64 x.off) := id rfl
   have k1 : a0c tab g ty3 (.fptr [.int .i64 x.len, .str x.txt]) = some (.int .i64 x.len) := id rfl
   have k2 : a0c tab g ty9 (.fptr [.str x.txt]) = some (.str x.txt) := id rfl
   unfold lnE at hch
   simp only [hix, l0, l1, f0, f1, f2, k0, bs, a0t]
   by_cases c1 : x.off = at_
   case neg =>
    rw [if_neg (fun hh => c1 hh.1)] at hch
    simp only [c1, ne_eq, not_false_eq_true, decide_true, a0r, a1f, reduceCtorEq, d4Z, if_false, bs, a0e, if_true, a0d]
    exact .some (.inr ⟨by simp, rfl, .inr ⟨rfl, by rw [← hch]; rfl⟩⟩)
   by_cases c2 : x.len < 1
   ·rw [if_neg (fun hh => hh.2.1 c2)] at hch
    simp only [c1, c2, ne_eq, not_true, decide_true, decide_false, a0r, a1f, reduceCtorEq, d4Z, d4Y, if_false, bs, k1, a0j, a0e, if_true, a0d]
    exact .some (.inr ⟨by simp, rfl, .inr ⟨rfl, by rw [← hch]; rfl⟩⟩)
   generalize hT : IntKind.wrap .i64 (e.a3 - at_) = T at hch
   by_cases c3 : T < x.len
   ·rw [if_neg (fun hh => hh.2.2.1 c3)] at hch
    simp only [c1, c2, c3, ne_eq, not_true, decide_true, decide_false, a0r, a1f, reduceCtorEq, d4Z, d4Y, if_false, bs, k1, a2d, ld3, a0B, hT, a0j, a0v, a0e, if_true, a0d]
    exact .some (.inr ⟨by simp, rfl, .inr ⟨rfl, by rw [← hch]; rfl⟩⟩)
   by_cases c4 : e.ls.drop (i + 1) = [] ∧ x.len < T
   ·rw [if_neg (fun hh => hh.2.2.2 c4)] at hch
    have c5 : (i : Int) = (e.ls.length : Int) - 1 := hr.1 c4.1
    have c6 : ¬ x.len = T := by have := c4.2; omega
    have d5 : decide ((i : Int) = (e.ls.length : Int) - 1) = true := decide_eq_true c5
    simp only [c1, c2, c3, d5, c6, ne_eq, not_true, not_false_eq_true, decide_true, decide_false, a0r, a1f, reduceCtorEq, d4Z, d4Y, if_false, bs, k1, a2d, a5I, a8p, a2G e.hld, ld3, a0B, hw4, hT, a0j, a0v, a0R, a0t, a0e, if_true, a0d]
    exact .some (.inr ⟨by simp, rfl, .inr ⟨rfl, by rw [← hch]; rfl⟩⟩)
   rw [if_pos ⟨c1, c2, c3, c4⟩] at hch
   have c6 : (i : Int) = (e.ls.length : Int) - 1 → x.len = T := fun c5 => by
    have : ¬ x.len < T := fun hh => c4 ⟨hr.2 c5, hh⟩
    omega
   by_cases c7 : m < x.txt.length
   ·rw [if_pos c7] at hch
    have c7' : (x.txt.length : Int) > m := c7
    by_cases c5 : (i : Int) = (e.ls.length : Int) - 1
    ·replace c6 := c6 c5
     have d5 : decide ((i : Int) = (e.ls.length : Int) - 1) = true := decide_eq_true c5
     have d6 : decide (¬ x.len = T) = false := decide_eq_false (fun hh => hh c6)
     simp only [c1, c2, c3, d5, d6, c7', ne_eq, not_true, not_false_eq_true, decide_true, decide_false, a0r, a1f, reduceCtorEq, d4Z, d4Y, if_false, bs, k1, k2, a2d, a5I, a8p, a2G e.hld, ld3, a0B, hw4, hT, a0j, a0v, a0R, a0t, a0e, if_true, a0d, a4x, a0u, hw, Int.lt_irrefl]
     exact .some (.inr ⟨by simp, rfl, .inr ⟨rfl, by rw [← hch]; rfl⟩⟩)
    ·clear c6
     simp only [c1, c2, c3, c5, c7', ne_eq, not_true, not_false_eq_true, decide_true, decide_false, a0r, a1f, reduceCtorEq, d4Z, d4Y, if_false, bs, k1, k2, a2d, a5I, a8p, a2G e.hld, ld3, a0B, hw4, hT, a0j, a0v, a0R, a0t, a0e, if_true, a0d, a4x, a0u, hw, Int.lt_irrefl]
     exact .some (.inr ⟨by simp, rfl, .inr ⟨rfl, by rw [← hch]; rfl⟩⟩)
   ·rw [if_neg c7] at hch
    have c7' : ¬ (x.txt.length : Int) > m := c7
    by_cases c5 : (i : Int) = (e.ls.length : Int) - 1
    ·replace c6 := c6 c5
     have d5 : decide ((i : Int) = (e.ls.length : Int) - 1) = true := decide_eq_true c5
     have d6 : decide (¬ x.len = T) = false := decide_eq_false (fun hh => hh c6)
     simp only [c1, c2, c3, d5, d6, c7', ne_eq, not_true, not_false_eq_true, decide_true, decide_false, a0r, a1f, reduceCtorEq, d4Z, d4Y, if_false, bs, k1, k2, a2d, a5I, a8p, a2G e.hld, ld3, a0B, hw4, hT, a0j, a0v, a0R, a0t, a0e, if_true, a0d, a4x, a0u, hw, Int.lt_irrefl]
     exact .some (.inl ⟨rfl, k - 1, by omega, rfl, _, _, _, _, _, _, i + 1, rfl, by omega, hch⟩)
    ·clear c6
     simp only [c1, c2, c3, c5, c7', ne_eq, not_true, not_false_eq_true, decide_true, decide_false, a0r, a1f, reduceCtorEq, d4Z, d4Y, if_false, bs, k1, k2, a2d, a5I, a8p, a2G e.hld, ld3, a0B, hw4, hT, a0j, a0v, a0R, a0t, a0e, if_true, a0d, a4x, a0u, hw, Int.lt_irrefl]
     exact .some (.inl ⟨rfl, k - 1, by omega, rfl, _, _, _, _, _, _, i + 1, rfl, by omega, hch⟩)
  ·intro h0
   have h0 : e.ls.length ≤ i := by
    have : ¬ (i : Int) < e.ls.length := by simpa using h0
    omega
   rw [List.drop_of_length_le h0] at hch
   exact .some (.inr ⟨by simp, rfl, .inl ⟨rfl, hch.symm⟩⟩)
 ·rintro ⟨ex, ds, g⟩ ⟨h2, h3⟩
  simp only at h2 h3
  subst h2
  rcases h3 with ⟨rfl, rfl⟩ | ⟨rfl, hv⟩
  ·simp only [a0l, a0o, bs, a0g]
   exact .some rfl
  ·simp only [a1J, a1I, a1H, a0f, bs, hv, a0g]
   exact .some rfl
def ltS (x y : Str × Str) : Prop := Op.bytesLess x.1 y.1 = true
theorem b6W {x y : Str × Str} (h : ltS x y) : leS x y := by
 rw [a7A]
 cases hh : Op.bytesLess y.1 x.1
 ·rfl
 ·have := b4P h hh
  rw [a9R] at this; cases this
theorem c5z {C : List (Str × Str)} (h : C.Pairwise ltS) : a8V C = false := by
 rw [a3I (h.imp b6W), List.Nodup, List.pairwise_map]
 exact h.imp fun {a b} hab he => by
  have : Op.bytesLess a.1 b.1 = true := hab
  rw [he, a9R] at this; cases this
theorem c2q {l C : List (Str × Str)} (hp : C.Perm l) (hs : C.Pairwise ltS) (h32 : l.length ≤ 32) (hn : l.all (fun p => a1w p.1) = true) : a1N l = (0, C) := by
 obtain ⟨a1, a2⟩ := b3R hp (hs.imp b6W)
 have h := c5z hs
 have h32n : ¬ 32 < l.length := by omega
 rw [a2 h]
 rw [h] at a1
 simp only [a1N, h32n, if_false, hn, if_true, ← a1, d4Y]
theorem b9E {l : List (Str × Str)} (h32 : l.length ≤ 32) (hn : l.all (fun p => a1w p.1) = true) (hd : ¬ (l.map Prod.fst).Nodup) : a1N l = (7, []) := by
 obtain ⟨h1, h2⟩ := c0K l
 have : a8V (srt l) = true := by
  cases hq : a8V (srt l)
  ·rw [a3I h2, (h1.map Prod.fst).nodup_iff] at hq
   exact absurd hq hd
  ·rfl
 have h32n : ¬ 32 < l.length := by omega
 simp only [a1N, h32n, if_false, hn, if_true, this]
theorem c5j (l : List (Str × Str)) (d : D) (h : Hp) (hd : SlOf 2 fld l d) (hl : l.length ≤ 32) (hb : ∀ p ∈ l, p.1.length ≤ 9223372036854775807) {β : Type} {K : Out → Option β} {Q : β → Prop} (a b x1 x2 : D)
  (k1 : l.all (fun p => a1w p.1) = true → ∀ x y z, Wp (K (.ext 0, [a, b, x, y, z], h)) Q) (k2 : ¬ l.all (fun p => a1w p.1) = true → ∀ x y z, Wp (K (.ret, [.nils, .int .i64 6, x, y, z], h)) Q) :
  Wp ((a0I (a8C d) [a, b, .int .i64 0, x1, x2] h).bind K) Q := by
 generalize hV : l.all (fun p => a1w p.1) = V at k1 k2
 refine Wp.loop (fun k ds g => g = h ∧ ∃ e f, ∃ i : Nat, ds = [a, b, .int .i64 i, e, f] ∧ k + i = l.length ∧ (l.drop i).all (fun p => a1w p.1) = V)
   (fun x => x.2.2 = h ∧ ((x.1 = .ext 0 ∧ V = true ∧ ∃ p q r, x.2.1 = [a, b, p, q, r]) ∨ (x.1 = .ret ∧ V = false ∧ ∃ p q r, x.2.1 = [.nils, .int .i64 6, p, q, r]))) l.length ⟨rfl, _, _, 0, rfl, rfl, hV⟩ ?_ ?_
 ·rintro k ds g ⟨rfl, e, f, i, rfl, hk, hch⟩
  simp only [a8C, a0f, a0n, bs, d4X, a1W hd, a0j]
  refine Wp.dif ?_ ?_
  ·intro h0
   have h0 : i < l.length := dl_ h0
   have hg : l[i]? = some l[i] := d5o h0
   have hw := wi_ i (by omega)
   have hbx := hb l[i] (List.getElem_mem _)
   rw [List.drop_eq_getElem_cons h0] at hch
   generalize l[i] = x at hg hch hbx
   simp only [a7S hd, Int.natCast_nonneg, if_true, d5h, hg, Option.map_some, bs, a8g x, a8h, d1e x.1 g hbx, a1m]
   simp only [List.all_cons] at hch
   cases hf : a1w x.1
   ·rw [hf] at hch
    simp only [d5j, a0d, if_true]
    exact .some (.inr ⟨by simp, rfl, .inr ⟨rfl, hch.symm, _, _, _, rfl⟩⟩)
   ·rw [hf] at hch
    simp only [d5i, a0d, d4Y, if_false, a0u, bs, hw]
    exact .some (.inl ⟨rfl, k - 1, by omega, rfl, _, _, i + 1, rfl, by omega, hch⟩)
  ·intro h0
   have h0 : l.length ≤ i := by
    have : ¬ (i : Int) < l.length := by simpa using h0
    omega
   rw [List.drop_of_length_le h0] at hch
   exact .some (.inr ⟨by simp, rfl, .inl ⟨rfl, hch.symm, _, _, _, rfl⟩⟩)
 ·rintro ⟨x, ds, g⟩ ⟨h2, h3⟩
  simp only at h2 h3
  subst h2
  rcases h3 with ⟨rfl, hv, p, q, r, rfl⟩ | ⟨rfl, hv, p, q, r, rfl⟩
  ·exact k1 hv _ _ _
  ·exact k2 (by rw [hv]; simp [-bind_some]) _ _ _
theorem c5k (l : List (Str × Str)) (d : D) (hd : SlOf 2 fld l d) (ds0 : List D) (i : Nat) (x : Str × Str) (hx : l[i]? = some x) (hi1 : nth 3 ds0 = .int .i64 (i : Int)) (O : List (Str × Str)) (hOl : O.length ≤ 1000) (ob : Nat) (g : Hp) (hg : g[ob]? = some (.row a0w 2 ((O ++ [x]).map fld))) (b : D) {β : Type} {f : Out → Option β} {Q : β → Prop}
  (K : ∀ (k : Nat) (z : Str × Str) (g' : Hp) (v : D), k ≤ O.length → g'[ob]? = some (.row a0w 2 ((O.take k ++ z :: O.drop k).map fld)) → Same ob g g' → (k = 0 ∨ ∃ y, O[k - 1]? = some y ∧ ¬ ltS x y) → (∀ j y, k ≤ j → O[j]? = some y → ltS x y) → Wp (f (.ext 4, [.int .i64 (k : Int), v], g')) Q) :
  Wp ((a0I (a8D d ds0 (.msl 2 ob 0 (O.length + 1))) [.int .i64 (O.length : Int), b] g).bind f) Q := by
 refine Wp.loop (fun n ds g' => ∃ c z, ds = [.int .i64 (n : Int), c] ∧ n ≤ O.length ∧ g'[ob]? = some (.row a0w 2 ((O.take n ++ z :: O.drop n).map fld)) ∧ Same ob g g' ∧ ∀ j y, n ≤ j → O[j]? = some y → ltS x y)
  (fun r => r.1 = .ext 4 ∧ ∃ (k : Nat) (z : Str × Str) (v : D), r.2.1 = [.int .i64 (k : Int), v] ∧ k ≤ O.length ∧ r.2.2[ob]? = some (.row a0w 2 ((O.take k ++ z :: O.drop k).map fld)) ∧ Same ob g r.2.2 ∧ (k = 0 ∨ ∃ y, O[k - 1]? = some y ∧ ¬ ltS x y) ∧ (∀ j y, k ≤ j → O[j]? = some y → ltS x y)) O.length
  ⟨_, x, rfl, Nat.le_refl _, by rw [d5x, List.drop_length]; exact hg, .refl _ _, fun j y hj hy => by have := (d5p.1 hy).1; omega⟩ ?_ ?_
 ·rintro n ds g' ⟨c, z, rfl, hn, hg', sm, hall⟩
  have hix : a0b tab a1c d (.int .i64 (i : Int)) = some (.fptr (fld x)) := by rw [a7S hd]; simp [-bind_some, hx]
  simp only [a8D, a0f, a0n, bs, d4X, hi1, a0v]
  by_cases h0 : n = 0
  ·subst h0
   have d0 : decide (((0 : Nat) : Int) > 0) = false := decide_eq_false (by omega)
   simp only [d0, a0r, a1f, reduceCtorEq, if_false, if_true, bs, a0e, d4Y, a0d]
   exact .some (.inr ⟨by simp, rfl, 0, z, _, rfl, by omega, hg', sm, .inl rfl, hall⟩)
  ·obtain ⟨m, rfl⟩ : ∃ m, n = m + 1 := ⟨n - 1, by omega⟩
   have d0 : decide (((m + 1 : Nat) : Int) > 0) = true := decide_eq_true (by omega)
   have hw : IntKind.wrap .i64 (((m + 1 : Nat) : Int) - 1) = (m : Int) := by rw [wrap_i64 (by omega) (by omega)]; omega
   obtain ⟨y, hy⟩ : ∃ y, O[m]? = some y := ⟨_, d5o (by omega)⟩
   have htl : (O.take (m + 1)).length = m + 1 := by simp; omega
   have hym : ((O.take (m + 1) ++ z :: O.drop (m + 1)).map fld)[m]? = some (fld y) := by
    rw [d5l, d5y (by omega), List.getElem?_take, if_pos (by omega), hy]; rfl
   have hzm : ((O.take (m + 1) ++ z :: O.drop (m + 1)).map fld)[m + 1]? = some (fld z) := by
    rw [d5l, a1T _ _ z _ htl]; rfl
   have iy : a0b tab a1c (.msl 2 ob 0 (O.length + 1)) (.int .i64 (m : Int)) = some (.ptr ob m 0) := by rw [a7R, if_pos (by omega)]; simp [-bind_some]
   have iz : a0b tab a1c (.msl 2 ob 0 (O.length + 1)) (.int .i64 ((m + 1 : Nat) : Int)) = some (.ptr ob (m + 1) 0) := by rw [a7R, if_pos (by omega)]; simp [-bind_some]
   have ly : a0c tab g' ty9 (.ptr ob m 0) = some (.str y.1) := by rw [b1G, a0V hg', hym]; rfl
   have lyr : a0c tab g' a0w (.ptr ob m 0) = some (.agg (fld y)) := by rw [b3u, a0V hg', hym]; rfl
   simp only [d0, a0r, if_true, bs, a0B, hw, iy, a5J, ly, hix, a8g x, a8h, d4B, a0e]
   by_cases hlt : ltS x y
   ·have hb : (!(Op.bytesLess y.1 x.1 || y.1 == x.1)) = true := by
      have h1 : Op.bytesLess x.1 y.1 = true := hlt
      have h2 : Op.bytesLess y.1 x.1 = false := (a7A x y).1 (b6W hlt)
      have h3 : (y.1 == x.1) = false := by
       cases hq : (y.1 == x.1)
       ·rfl
       ·rw [eq_of_beq hq, a9R] at h1; cases h1
      rw [h2, h3]; rfl
    simp only [hb, a0d, if_true, a0B, hw, iy, lyr, iz, bs, d4X]
    refine a5a (off := 0) hg' hzm (by rfl) (by exact Nat.le_refl _) (by rfl) fun g2 p2 s2 => ?_
    have hset : ((O.take (m + 1) ++ z :: O.drop (m + 1)).map fld).set (m + 1) (spl (fld z) 0 (a0z (.agg (fld y)))) = (O.take m ++ y :: O.drop m).map fld := by
     rw [show spl (fld z) 0 (a0z (.agg (fld y))) = fld y from rfl, ← List.map_set, a4I _ _ z y _ htl, a3y hy, d5k, hy]
     simp [-bind_some]
    rw [hset] at p2
    try simp only [bs, a0B, hw]
    exact .some (.inl ⟨rfl, m, by omega, _, y, rfl, by omega, p2, sm.trans s2, fun j y' hj hy' => by
     by_cases hjm : j = m
     ·subst hjm; rw [hy] at hy'; injection hy' with hy'; subst hy'; exact hlt
     ·exact hall j y' (by omega) hy'⟩)
   ·have hb : (!(Op.bytesLess y.1 x.1 || y.1 == x.1)) = false := by
      by_cases h3 : y.1 = x.1
      ·have : (y.1 == x.1) = true := by simpa using h3
       rw [this]; simp [-bind_some]
      ·have h1 : Op.bytesLess x.1 y.1 = false := by
         cases hq : Op.bytesLess x.1 y.1
         ·rfl
         ·exact absurd hq hlt
       have h2 := a9S h1 (fun hh => h3 hh.symm)
       rw [h2]; rfl
    simp only [hb, a0d, d4Y, if_false]
    exact .some (.inr ⟨by simp, rfl, m + 1, z, _, rfl, hn, hg', sm, .inr ⟨y, by simpa using hy, hlt⟩, hall⟩)
 ·rintro ⟨ex, ds, g'⟩ ⟨rfl, k, z, v, rfl, k1, k2, k3, k4, k5⟩
  exact K k z g' v k1 k2 k3 k4 k5
theorem c5y {x y z : Str × Str} (h : ltS x y) (k : ltS y z) : ltS x z := b4P h k
theorem c0k {O : List (Str × Str)} {y : Str × Str} {k : Nat} (hs : O.Pairwise ltS) (h1 : k = 0 ∨ ∃ z, O[k - 1]? = some z ∧ ltS z y) (h2 : ∀ j z, k ≤ j → O[j]? = some z → ltS y z) : (O.take k ++ y :: O.drop k).Pairwise ltS := by
 rw [List.pairwise_append]
 have hs' := hs
 rw [← List.take_append_drop k O, List.pairwise_append] at hs'
 have q1 : ∀ a ∈ O.take k, ltS a y := by
  intro a ha
  rcases h1 with rfl | ⟨z, hz, hzy⟩
  ·simp at ha
  ·obtain ⟨j, hj⟩ := List.getElem?_of_mem ha
   rw [List.getElem?_take] at hj
   split at hj
   ·rename_i hjk
    by_cases hjz : j = k - 1
    ·subst hjz; rw [hz] at hj; injection hj with hj; subst hj; exact hzy
    ·obtain ⟨n1, e1⟩ := d5p.1 hj
     obtain ⟨n2, e2⟩ := d5p.1 hz
     have := List.pairwise_iff_getElem.1 hs j (k - 1) n1 n2 (by omega)
     rw [e1, e2] at this
     exact c5y this hzy
   ·cases hj
 have q2 : ∀ b ∈ O.drop k, ltS y b := by
  intro b hb
  obtain ⟨j, hj⟩ := List.getElem?_of_mem hb
  rw [List.getElem?_drop] at hj
  exact h2 (k + j) b (by omega) hj
 refine ⟨hs'.1, List.pairwise_cons.2 ⟨q2, hs'.2.1⟩, fun a ha b hb => ?_⟩
 rcases d5u.1 hb with rfl | hb
 ·exact q1 a ha
 ·exact hs'.2.2 a ha b hb
theorem c1w {l : List (Str × Str)} {i : Nat} {y z : Str × Str} (hy : l[i]? = some y) (hz : z ∈ l.take i) (he : z.1 = y.1) : ¬ (l.map Prod.fst).Nodup := by
 intro hn
 have e : l = l.take i ++ y :: l.drop (i + 1) := by
  rw [← a3y hy, List.take_append_drop]
 rw [e, d5e, d5f, List.nodup_append] at hn
 exact hn.2.2 z.1 (d5w.2 ⟨z, hz, rfl⟩) y.1 (by simp) he
theorem c5T (l : List (Str × Str)) (d : D) (h : Hp) (hd : SlOf 2 fld l d) (hb : ∀ p ∈ l, p.1.length ≤ 9223372036854775807) : ∃ d', R b2X [d] h = some (.tup [d', .int .i64 (a1N l).1], h) ∧ ((a1N l).1 = 0 → SlOf 2 fld (a1N l).2 d') := by
 suffices Wp (R b2X [d] h) (fun p => p.2 = h ∧ ∃ d', p.1 = .tup [d', .int .i64 (a1N l).1] ∧ ((a1N l).1 = 0 → SlOf 2 fld (a1N l).2 d')) by
  obtain ⟨⟨x, h'⟩, h1, rfl, d', rfl, h2⟩ := this
  exact ⟨d', h1, h2⟩
 have sc : ∀ (g : Hp) (v : Int), h.length ≤ g.length → (∀ q, q < h.length → g[q]? = h[q]?) → scope h g (.tup [.nils, .int .i64 v]) = some (.tup [.nils, .int .i64 v], h) := fun g v h1 h2 => a1i (by simp) (.tup _ fun x hx => by
  simp only [d5u, List.not_mem_nil, or_false] at hx
  rcases hx with rfl | rfl
  ·exact .nils
  ·exact .int _ _) h1 h2
 rw [c7z]
 by_cases h32n : 32 < l.length
 ·have h32 : decide ((l.length : Int) > 32) = true := decide_eq_true (by omega)
  have hs : a1N l = (4, []) := by simp only [a1N, h32n, if_true]
  rw [hs]
  simp only [c0T, bs, d4X, a1W hd, a0v, h32, a0d, if_true, a0S, sc h 4 (Nat.le_refl _) (fun _ _ => rfl)]
  exact .some ⟨rfl, .nils, rfl, fun hh => by cases hh⟩
 have h32 : decide ((l.length : Int) > 32) = false := decide_eq_false (by omega)
 simp only [c0T, bs, d4X, a1W hd, a0v, h32, a0d, d4Y, if_false]
 refine c5j l d h hd (by omega) hb _ _ _ _ (fun hv x y z => ?_) (fun hv x y z => ?_)
 case refine_2 =>
  have hs : a1N l = (6, []) := by simp only [a1N, h32n, if_false, hv]; rfl
  rw [hs]
  simp only [a1J, a1I, a1H, a0f, a0n, bs, a0S, sc h 6 (Nat.le_refl _) (fun _ _ => rfl)]
  exact .some ⟨rfl, .nils, rfl, fun hh => by cases hh⟩
 simp only [a0l, a0o, a0f, a0n, bs, d4X]
 clear x y z
 refine Wp.loop (fun k ds g => h.length ≤ g.length ∧ (∀ q, q < h.length → g[q]? = h[q]?) ∧ ∃ a b x c e f u, ∃ (i : Nat) (O : List (Str × Str)), ds = [a, b, x, .int .i64 (i : Int), c, e, f, u] ∧ k + i = l.length ∧ Own g h.length a0w 2 (O.map fld) x ∧ O.Perm (l.take i) ∧ O.Pairwise ltS)
   (fun r => h.length ≤ r.2.2.length ∧ (∀ q, q < h.length → r.2.2[q]? = h[q]?) ∧ ((r.1 = .ext 2 ∧ ∃ O : List (Str × Str), Own r.2.2 h.length a0w 2 (O.map fld) (nth 2 r.2.1) ∧ a1N l = (0, O)) ∨ (r.1 = .ret ∧ nth 0 r.2.1 = .nils ∧ nth 1 r.2.1 = .int .i64 7 ∧ a1N l = (7, [])))) l.length
   ⟨Nat.le_refl _, fun _ _ => rfl, _, _, _, _, _, _, _, 0, [], rfl, rfl, Own.nils _ _ _ _, by simp, List.Pairwise.nil⟩ ?_ ?_
 ·rintro k ds g ⟨hgl, hgq, a, b, x, c, e, f, u, i, O, rfl, hk, ow, hp, hs⟩
  simp only [b2c, a0f, a0n, bs, d4X, a1W hd, a0j]
  refine Wp.dif ?_ ?_
  ·intro h0
   have h0 : i < l.length := dl_ h0
   obtain ⟨y, hy⟩ := gx_ h0
   have hw := wi_ i (by omega)
   have hOl : O.length = i := by rw [hp.length_eq, d5t]; omega
   have hlit : a1h tab a1c 1 [0] [.agg (fld y)] = some (.sl 2 true [fld y]) := id rfl
   have hix : a0b tab a1c d (.int .i64 (i : Int)) = some (.fptr (fld y)) := by rw [a7S hd]; simp [-bind_some, hy]
   simp only [c0s ow, d5d, hix, bs, b0n, hlit, d4X]
   refine b9L hgl ow (a1g _ _ _ _) (by simp only [d5d, d5q, d5r]; omega) fun x1 g1 ow1 len1 bel1 _ _ => ?_
   have hrow : O.map fld ++ [fld y] = (O ++ [y]).map fld := by simp
   rw [hrow] at ow1
   obtain ⟨ob, hob, rfl, hgo⟩ := a4k ow1 (i := 0) (by simp)
   have hlen1 : ((O ++ [y]).map fld).length = O.length + 1 := by simp
   rw [hlen1]
   try simp only [bs]
   refine c5k l d hd [a, b, x, .int .i64 (i : Int), c, e, f, u] i y hy rfl O (by omega) ob g1 hgo _ fun k' z g2 v k1 k2 k3 k4 k5 => ?_
   have hm : (O.take k').length = k' := by simp; omega
   have hzk : ((O.take k' ++ z :: O.drop k').map fld)[k']? = some (fld z) := by rw [d5l, a1T _ _ z _ hm]; rfl
   have ik : a0b tab a1c (.msl 2 ob 0 (O.length + 1)) (.int .i64 (k' : Int)) = some (.ptr ob k' 0) := by rw [a7R, if_pos (by omega)]; simp [-bind_some]
   simp only [a0l, a0o, bs, a0f, a0n, d4X, hix, b0n, ik]
   refine a5a (off := 0) k2 hzk (by rfl) (by exact Nat.le_refl _) (by rfl) fun g3 p3 s3 => ?_
   rw [show spl (fld z) 0 (a0z (.agg (fld y))) = fld y from rfl, ← List.map_set, a4I _ _ z y _ hm] at p3
   have hlenN : (O.take k' ++ y :: O.drop k').length = O.length + 1 := by
    have := congrArg List.length (List.take_append_drop k' O)
    simp only [d5c, d5q] at this ⊢; omega
   have ow3 : Own g3 h.length a0w 2 ((O.take k' ++ y :: O.drop k').map fld) (.msl 2 ob 0 (O.length + 1)) := .inr ⟨ob, hob, by rw [d5d, hlenN], p3⟩
   have hgl3 : h.length ≤ g3.length := by have := s3.1; have := k3.1; omega
   have hgq3 : ∀ q, q < h.length → g3[q]? = h[q]? := fun q hq => by rw [s3.2 q (by omega), k3.2 q (by omega), bel1 q hq]; exact hgq q hq
   have hpN : (O.take k' ++ y :: O.drop k').Perm (l.take (i + 1)) := by
    rw [d5k, hy, Option.toList_some]
    refine List.perm_middle.trans ?_
    rw [List.take_append_drop]
    exact (List.Perm.cons y hp).trans (by simpa using (List.perm_append_comm (l₁ := [y]) (l₂ := l.take i)))
   have nxt : (O.take k' ++ y :: O.drop k').Pairwise ltS → ∀ (c1 c2 c3 c4 c5 c6 : D), (fun r : Out => (r.1 = .nrm ∧ ∃ k'' , k'' < k ∧ h.length ≤ r.2.2.length ∧ (∀ q, q < h.length → r.2.2[q]? = h[q]?) ∧ ∃ a b x c e f u, ∃ (i : Nat) (O : List (Str × Str)), r.2.1 = [a, b, x, .int .i64 (i : Int), c, e, f, u] ∧ k'' + i = l.length ∧ Own r.2.2 h.length a0w 2 (O.map fld) x ∧ O.Perm (l.take i) ∧ O.Pairwise ltS)) (.nrm, [c1, c2, .msl 2 ob 0 (O.length + 1), .int .i64 ((i + 1 : Nat) : Int), c3, c4, c5, c6], g3) := fun hs3 c1 c2 c3 c4 c5 c6 => ⟨rfl, k - 1, by omega, hgl3, hgq3, _, _, _, _, _, _, _, i + 1, _, rfl, by omega, ow3, hpN, hs3⟩
   try simp only [bs, a0v, d4X]
   by_cases hk0 : k' = 0
   ·subst hk0
    have d0 : decide (((0 : Nat) : Int) > 0) = false := decide_eq_false (by omega)
    simp only [d0, a0r, a1f, reduceCtorEq, if_false, if_true, bs, a0e, d4Y, a0d, a0u, hw]
    exact .some (.inl (nxt (c0k hs (.inl rfl) k5) _ _ _ _ _ _))
   ·obtain ⟨w, hwk, hwn⟩ := k4.resolve_left hk0
    have d0 : decide ((k' : Int) > 0) = true := decide_eq_true (by omega)
    have hw1 : IntKind.wrap .i64 ((k' : Int) - 1) = ((k' - 1 : Nat) : Int) := by rw [wrap_i64 (by omega) (by omega)]; omega
    have iw : a0b tab a1c (.msl 2 ob 0 (O.length + 1)) (.int .i64 ((k' - 1 : Nat) : Int)) = some (.ptr ob (k' - 1) 0) := by rw [a7R, if_pos (by omega)]; simp [-bind_some]
    have hwr : ((O.take k' ++ y :: O.drop k').map fld)[k' - 1]? = some (fld w) := by
     rw [d5l, d5y (by omega), List.getElem?_take, if_pos (by omega), hwk]; rfl
    have lw : a0c tab g3 ty9 (.ptr ob (k' - 1) 0) = some (.str w.1) := by rw [b1G, a0V p3, hwr]; rfl
    simp only [d0, a0r, if_true, bs, a0B, hw1, iw, a5J, lw, hix, a8g y, a8h, a2c, a0e]
    by_cases heq : w.1 = y.1
    ·have hb1 : (w.1 == y.1) = true := by simpa using heq
     have hwm : w ∈ l.take i := hp.mem_iff.1 (d5m hwk)
     have hd7 := b9E (l := l) (by omega) hv (c1w hy hwm heq)
     simp only [hb1, a0d, if_true]
     exact .some (.inr ⟨by simp, hgl3, hgq3, .inr ⟨rfl, rfl, rfl, hd7⟩⟩)
    ·have hb1 : (w.1 == y.1) = false := by simpa using heq
     have hwy : ltS w y := by
      have h1 : Op.bytesLess y.1 w.1 = false := by
       cases hq : Op.bytesLess y.1 w.1
       ·rfl
       ·exact absurd hq hwn
      exact a9S h1 (fun hh => heq hh.symm)
     simp only [hb1, a0d, d4Y, if_false, a0u, hw, bs]
     exact .some (.inl (nxt (c0k hs (.inr ⟨w, hwk, hwy⟩) k5) _ _ _ _ _ _))
  ·intro h0
   have h0 : l.length ≤ i := by
    have : ¬ (i : Int) < l.length := by simpa using h0
    omega
   rw [List.take_of_length_le h0] at hp
   exact .some (.inr ⟨by simp, hgl, hgq, .inl ⟨rfl, O, ow, c2q hp hs (by omega) hv⟩⟩)
 ·rintro ⟨ex, ds, g⟩ ⟨hgl, hgq, h3⟩
  rcases h3 with ⟨rfl, O, ow, hO⟩ | ⟨rfl, n0, n1, hO⟩
  ·have hs := a2C (n0 := h.length) (n := 2) ow (Nat.le_refl _) fun p _ y hy => by
     simp only [fld, d5u, List.not_mem_nil, or_false] at hy
     rcases hy with rfl | rfl <;> exact b6l _ _ _ _
   have hsc : scope h g (.tup [nth 2 ds, .int .i64 0]) = some (.tup [frz h.length g 3 (nth 2 ds), .int .i64 0], h) := by
    refine a1i (by simp) (.tup _ fun x hx => ?_) hgl hgq
    simp only [d5u, List.not_mem_nil, or_false] at hx
    rcases hx with rfl | rfl
    ·exact a2e hs fun p _ y hy => by
       simp only [fld, d5u, List.not_mem_nil, or_false] at hy
       rcases hy with rfl | rfl <;> exact .str _
    ·exact .int _ _
   simp only [a0l, a0o, bs, a0f, a0n, a0S, hsc, hO]
   exact .some ⟨rfl, _, rfl, fun _ => hs⟩
  ·replace n0 : nth 0 ds = .nils := n0
   replace n1 : nth 1 ds = .int .i64 7 := n1
   simp only [a1J, a1I, a1H, a0f, a0n, bs, n0, n1, a0S, sc g 7 hgl hgq, hO]
   exact .some ⟨rfl, .nils, rfl, fun hh => by cases hh⟩
theorem d0O (l : List (Str × Str)) (d : D) (h : Hp) (hd : SlOf 2 fld l d) (hl : l.length ≤ 1000) {β : Type} {K : Out → Option β} {Q : β → Prop} (a x1 x2 : D)
  (k1 : (l.any fun p => decide (2000 < p.2.length)) = false → ∀ x y z, Wp (K (.ext 0, [a, x, y, z], h)) Q) (k2 : (l.any fun p => decide (2000 < p.2.length)) = true → ∀ x y z, Wp (K (.ret, [.int .i64 3, x, y, z], h)) Q) :
  Wp ((a0I (a8B d) [a, .int .i64 0, x1, x2] h).bind K) Q := by
 generalize hV : (l.any fun p => decide (2000 < p.2.length)) = V at k1 k2
 refine Wp.loop (fun k ds g => g = h ∧ ∃ e f, ∃ i : Nat, ds = [a, .int .i64 (i : Int), e, f] ∧ k + i = l.length ∧ ((l.drop i).any fun p => decide (2000 < p.2.length)) = V)
   (fun x => x.2.2 = h ∧ ((x.1 = .ext 0 ∧ V = false ∧ ∃ p q r, x.2.1 = [a, p, q, r]) ∨ (x.1 = .ret ∧ V = true ∧ ∃ p q r, x.2.1 = [.int .i64 3, p, q, r]))) l.length ⟨rfl, _, _, 0, rfl, rfl, hV⟩ ?_ ?_
 ·rintro k ds g ⟨rfl, e, f, i, rfl, hk, hch⟩
  simp only [a8B, a0f, a0n, bs, d4X, a1W hd, a0j]
  refine Wp.dif ?_ ?_
  ·intro h0
   have h0 : i < l.length := dl_ h0
   obtain ⟨x, hx⟩ := gx_ h0
   have hw := wi_ i (by omega)
   rw [a3y hx] at hch
   have hix : a0b tab a1c d (.int .i64 (i : Int)) = some (.fptr (fld x)) := by rw [a7S hd]; simp [-bind_some, hx]
   have f1 : a0a tab a0w 1 (.fptr (fld x)) = some (.fptr [.str x.2]) := id rfl
   have l1 : a0c tab g ty9 (.fptr [.str x.2]) = some (.str x.2) := id rfl
   simp only [hix, f1, l1, bs, a4x, a0v]
   simp only [List.any_cons] at hch
   by_cases hf : 2000 < x.2.length
   ·have hf' : (x.2.length : Int) > 2000 := by omega
    simp only [hf, decide_true, Bool.true_or] at hch
    simp only [hf', decide_true, a0d, if_true]
    exact .some (.inr ⟨by simp, rfl, .inr ⟨rfl, hch.symm, _, _, _, rfl⟩⟩)
   ·have hf' : ¬ (x.2.length : Int) > 2000 := by omega
    simp only [hf, decide_false, Bool.false_or] at hch
    simp only [hf', decide_false, a0d, d4Y, if_false, a0u, bs, hw]
    exact .some (.inl ⟨rfl, k - 1, by omega, rfl, _, _, i + 1, rfl, by omega, hch⟩)
  ·intro h0
   have h0 : l.length ≤ i := by
    have : ¬ (i : Int) < l.length := by simpa using h0
    omega
   rw [List.drop_of_length_le h0] at hch
   exact .some (.inr ⟨by simp, rfl, .inl ⟨rfl, hch.symm, _, _, _, rfl⟩⟩)
 ·rintro ⟨x, ds, g⟩ ⟨h2, h3⟩
  simp only at h2 h3
  subst h2
  rcases h3 with ⟨rfl, hv, p, q, r, rfl⟩ | ⟨rfl, hv, p, q, r, rfl⟩
  ·exact k1 hv _ _ _
  ·exact k2 hv _ _ _
def NmB (e : Ev) : Prop := ∀ p ∈ e.fs, p.1.length ≤ 9223372036854775807
theorem c5R (e : Ev) (h : Hp) (hb : NmB e) : R b5E [.agg (evr e)] h = some (.int .i64 (evE e), h) := by
 apply Wp.val
 have q5 : a0a tab a0E 5 (.fptr (evr e)) = some (.fptr [.int .i64 e.a5, .int .i64 e.a6, .str e.s7, .str e.s8, e.fd]) := id rfl
 have q6 : a0a tab a0E 6 (.fptr (evr e)) = some (.fptr [.int .i64 e.a6, .str e.s7, .str e.s8, e.fd]) := id rfl
 have q7 : a0a tab a0E 7 (.fptr (evr e)) = some (.fptr [.str e.s7, .str e.s8, e.fd]) := id rfl
 have q8 : a0a tab a0E 8 (.fptr (evr e)) = some (.fptr [.str e.s8, e.fd]) := id rfl
 have q9 : a0a tab a0E 9 (.fptr (evr e)) = some (.fptr [e.fd]) := id rfl
 have l9 : ∀ g, a0c tab g a1c (.fptr [e.fd]) = some e.fd := fun g => by
  have h1 := a1z e.hfd
  generalize e.fd = a at h1
  cases a <;> first | rfl | (simp [-bind_some, D.one] at h1)
 have hL : ∀ g, a0c tab g a0E (.fptr (evr e)) = some (.agg (evr e)) := fun g => id rfl
 rw [c7v]
 simp only [c2Z, a1b, bs, d4X, hL, c0F, q5, q6, q7, q8, q9]
 unfold evE
 by_cases c1 : plB e = true
 case neg =>
  have c1' : plB e = false := by simpa using c1
  simp only [c1', d4Y, if_false, a0t, ne_eq, show ¬ (2 : Int) = 0 by omega, not_false_eq_true, decide_true, a0r, a1f, reduceCtorEq, d4Z, bs, a0e, if_true, a0d, d5j, Bool.true_or, a0g]
  exact .some rfl
 by_cases c2 : e.a5 < 0
 ·have c2' : ¬ 0 ≤ e.a5 := by omega
  simp only [c1, c2, c2', if_true, a0t, ne_eq, not_true, decide_true, decide_false, a0r, a1f, ld3, a0j, reduceCtorEq, d4Z, d4Y, if_false, bs, a0e, a0d, d5i, Bool.false_and, d5j, Bool.or_true, a0g]
  exact .some rfl
 have c2' : 0 ≤ e.a5 := by omega
 by_cases c3 : 253402300799999 < e.a5
 ·have c3' : ¬ e.a5 ≤ 253402300799999 := by omega
  simp only [c1, c2, c2', c3, c3', if_true, a0t, ne_eq, not_true, decide_true, decide_false, a0r, a1f, ld3, a0j, a0v, reduceCtorEq, d4Z, d4Y, if_false, bs, a0e, a0d, d5i, Bool.and_false, d5j, Bool.or_true, a0g, gt_iff_lt]
  exact .some rfl
 have c3' : e.a5 ≤ 253402300799999 := by omega
 simp only [c1, c2, c2', c3, c3', if_true, a0t, ne_eq, not_true, decide_true, decide_false, a0r, a1f, ld3, a0j, a0v, reduceCtorEq, d4Z, d4Y, if_false, bs, a0e, a0d, d5i, Bool.and_true, Bool.or_self, Bool.and_self, gt_iff_lt, c5S, a1m, d4X]
 by_cases c4 : e.a6 < 1 ∨ ¬ Int.tmod 5040 e.a6 = 0
 ·simp only [c4, not_true, decide_false, d5j, if_true, a0g]
  exact .some rfl
 simp only [c4, not_false_eq_true, decide_true, d5i, d4Y, if_false, hL, c0G, bs, a0t, ne_eq]
 generalize hLn : a2g e 2000 = L
 by_cases c5 : L = 0
 case neg =>
  simp only [c5, not_false_eq_true, decide_true, if_true, a0g]
  exact .some rfl
 subst c5
 simp only [not_true, decide_false, d4Y, if_false, ld9, a4x, bs, a0v, gt_iff_lt]
 by_cases c6 : 32 < e.s7.length
 ·have c6' : (32 : Int) < (e.s7.length : Int) := by omega
  simp only [c6, c6', true_or, decide_true, if_true, a0r, a1f, reduceCtorEq, if_false, d4Z, bs, a0e, a0d, a0g]
  exact .some rfl
 have c6' : ¬ (32 : Int) < (e.s7.length : Int) := by omega
 by_cases c7 : 32 < e.s8.length
 ·have c7' : (32 : Int) < (e.s8.length : Int) := by omega
  simp only [c6, c6', c7, c7', or_true, decide_true, decide_false, if_true, a0r, if_false, d4Y, bs, ld9, a4x, a0v, gt_iff_lt, a0e, a0d, a0g]
  exact .some rfl
 have c7' : ¬ (32 : Int) < (e.s8.length : Int) := by omega
 obtain ⟨d', hs, hsl⟩ := c5T e.fs e.fd h e.hfd hb
 simp only [c6, c6', c7, c7', or_self, decide_false, if_true, a0r, if_false, d4Y, bs, ld9, a4x, a0v, gt_iff_lt, a0e, a0d, l9, hs, a0A, d5a, d5b, a0t, ne_eq]
 have hsl2 := b1a e.fs
 have hs32 : (a1N e.fs).1 = 0 → (a1N e.fs).2.length ≤ 1000 := fun h0 => by
  unfold a1N at h0 ⊢
  split
  ·simp [-bind_some]
  ·split
   ·split
    ·simp [-bind_some]
    ·simp only [b7V]; omega
   ·simp [-bind_some]
 generalize hS : a1N e.fs = S at hs hsl hsl2 hs32
 obtain ⟨v, s⟩ := S
 simp only at hsl hsl2 hs32 ⊢
 by_cases c8 : v = 0
 case neg =>
  simp only [c8, not_false_eq_true, decide_true, if_true, a0g]
  exact .some rfl
 subst c8
 have hsd := hsl rfl
 have hsn := hs32 rfl
 simp only [not_true, decide_false, d4Y, if_false, bs, s95 s e.fs d' e.fd h hsd e.hfd (by omega), a1m, d4X]
 by_cases c9 : s = e.fs
 case neg =>
  simp only [c9, decide_false, d5j, if_true, not_false_eq_true, a0g]
  exact .some rfl
 simp only [c9, decide_true, d5i, d4Y, if_false, not_true]
 rw [c9] at hsd hsn
 refine d0O e.fs d' h hsd hsn _ _ _ (fun hv x y z => ?_) (fun hv x y z => ?_)
 ·simp only [a0l, a0o, bs, a0g, hv, d4Y, if_false]
  exact .some rfl
 ·simp only [a1J, a1I, a1H, a0f, bs, a0g, hv, if_true]
  exact .some rfl
theorem a9z (t m : Int) : ∀ (l : List Lin) (a : Int), lnE t m a l = 0 ∨ lnE t m a l = 3 ∨ lnE t m a l = 19
 | [], a => .inl rfl
 | x :: r, a => by
  unfold lnE
  split
  ·split
   ·exact .inr (.inl rfl)
   ·exact a9z t m r _
  ·exact .inr (.inr rfl)
theorem c0u (t : Int) : ∀ (l : List Lin) (a : Int), (∀ x ∈ l, x.txt.length ≤ 20000) → lnE t 20000 a l = lnE t 60000 a l
 | [], a, _ => rfl
 | x :: r, a, h => by
  have h0 := h x (by simp)
  have h1 := c0u t r (IntKind.wrap .i64 (a + x.len)) fun y hy => h y (by simp [-bind_some, hy])
  have h2 : ¬ (20000 : Int) < (x.txt.length : Int) := by omega
  have h3 : ¬ (60000 : Int) < (x.txt.length : Int) := by omega
  simp only [lnE, h1, h2, h3, if_false]
def itR (i : It) : Int :=
 if i.r = [] then evE i.e
 else if 32 < i.r.length then 3
 else if plB i.e = false then 2
 else if a2g i.e 20000 ≠ 0 ∧ a2g i.e 20000 ≠ 3 then a2g i.e 20000
 else if i.e.a5 ≠ 0 ∨ i.e.a6 ≠ 0 ∨ i.e.s7 ≠ [] ∨ i.e.s8 ≠ [] ∨ i.e.fs.length ≠ 0 ∨ (i.e.ls.any fun p => !(p.txt == [])) = true then 19 else 0
theorem c1L (i : It) : itR i = itE i := by
 unfold itR itE
 by_cases c0 : i.r = []
 ·simp only [c0, if_true]
 by_cases c1 : 32 < i.r.length
 ·simp only [c0, c1, if_true, if_false]
 by_cases c2 : plB i.e = false
 ·simp only [c0, c1, c2, if_true, if_false]
 simp only [c0, c1, c2, if_false]
 unfold a2g
 by_cases d0 : i.e.ls.length = 0
 ·simp [-bind_some, d0]
 by_cases d1 : 40 < i.e.ls.length
 ·simp [-bind_some, d0, d1]
 simp only [d0, d1, if_false]
 have v20 := a9z i.e.a3 20000 i.e.ls i.e.a2
 have v60 := a9z i.e.a3 60000 i.e.ls i.e.a2
 by_cases hs : ∀ x ∈ i.e.ls, x.txt.length ≤ 20000
 ·rw [c0u i.e.a3 i.e.ls i.e.a2 hs]
  generalize lnE i.e.a3 60000 i.e.a2 i.e.ls = L at v60 ⊢
  rcases v60 with rfl | rfl | rfl <;> simp [-bind_some]
 ·have hany : (i.e.ls.any fun p => !(p.txt == [])) = true := by
    rw [List.any_eq_true]
    refine Classical.byContradiction fun hn => hs fun x hx => ?_
    refine Classical.byContradiction fun h2 => hn ⟨x, hx, ?_⟩
    cases ht : x.txt with
    | nil => rw [ht] at h2; simp at h2
    | cons a b => rfl
  generalize (i.e.ls.any fun p => !(p.txt == [])) = bb at hany ⊢
  subst hany
  generalize lnE i.e.a3 60000 i.e.a2 i.e.ls = L at v60 ⊢
  generalize lnE i.e.a3 20000 i.e.a2 i.e.ls = M at v20 ⊢
  rcases v60 with rfl | rfl | rfl <;> rcases v20 with rfl | rfl | rfl <;> simp [-bind_some]
theorem d0M (e : Ev) (h : Hp) {β : Type} {K : Out → Option β} {Q : β → Prop} (a x1 x2 : D)
  (k1 : (e.ls.any fun p => !(p.txt == [])) = false → ∀ x y z, Wp (K (.ext 0, [a, x, y, z], h)) Q) (k2 : (e.ls.any fun p => !(p.txt == [])) = true → ∀ x y z, Wp (K (.ret, [.int .i64 19, x, y, z], h)) Q) :
  Wp ((a0I (a8A (.fptr (evr e))) [a, .int .i64 0, x1, x2] h).bind K) Q := by
 have q4 : a0a tab a0E 4 (.fptr (evr e)) = some (.fptr [e.ld, .int .i64 e.a5, .int .i64 e.a6, .str e.s7, .str e.s8, e.fd]) := id rfl
 have hl := e.hll
 generalize hV : (e.ls.any fun p => !(p.txt == [])) = V at k1 k2
 refine Wp.loop (fun k ds g => g = h ∧ ∃ u f, ∃ i : Nat, ds = [a, .int .i64 (i : Int), u, f] ∧ k + i = e.ls.length ∧ ((e.ls.drop i).any fun p => !(p.txt == [])) = V)
   (fun x => x.2.2 = h ∧ ((x.1 = .ext 0 ∧ V = false ∧ ∃ p q r, x.2.1 = [a, p, q, r]) ∨ (x.1 = .ret ∧ V = true ∧ ∃ p q r, x.2.1 = [.int .i64 19, p, q, r]))) e.ls.length ⟨rfl, _, _, 0, rfl, rfl, hV⟩ ?_ ?_
 ·rintro k ds g ⟨rfl, u, f, i, rfl, hk, hch⟩
  simp only [a8A, a0f, a0n, bs, d4X, q4, a8p, a2G e.hld, a0j]
  refine Wp.dif ?_ ?_
  ·intro h0
   have h0 : i < e.ls.length := dl_ h0
   obtain ⟨x, hx⟩ := gx_ h0
   have hw := wi_ i (by omega)
   rw [a3y hx] at hch
   have hix : a0b tab a1u e.ld (.int .i64 (i : Int)) = some (.fptr (a1p x)) := by rw [a9u e.hld]; simp [-bind_some, hx]
   have f1 : a0a tab a1A 2 (.fptr (a1p x)) = some (.fptr [.str x.txt]) := id rfl
   have l1 : a0c tab g ty9 (.fptr [.str x.txt]) = some (.str x.txt) := id rfl
   simp only [hix, f1, l1, bs, a1U]
   simp only [List.any_cons] at hch
   by_cases hf : (x.txt == []) = true
   ·simp only [hf, d5i, Bool.false_or] at hch
    simp only [hf, d5i, a0d, d4Y, if_false, a0u, bs, hw]
    exact .some (.inl ⟨rfl, k - 1, by omega, rfl, _, _, i + 1, rfl, by omega, hch⟩)
   ·have hf : (x.txt == []) = false := by simpa using hf
    simp only [hf, d5j, Bool.true_or] at hch
    simp only [hf, d5j, a0d, if_true]
    exact .some (.inr ⟨by simp, rfl, .inr ⟨rfl, hch.symm, _, _, _, rfl⟩⟩)
  ·intro h0
   have h0 : e.ls.length ≤ i := by
    have : ¬ (i : Int) < e.ls.length := by simpa using h0
    omega
   rw [List.drop_of_length_le h0] at hch
   exact .some (.inr ⟨by simp, rfl, .inl ⟨rfl, hch.symm, _, _, _, rfl⟩⟩)
 ·rintro ⟨x, ds, g⟩ ⟨h2, h3⟩
  simp only at h2 h3
  subst h2
  rcases h3 with ⟨rfl, hv, p, q, r, rfl⟩ | ⟨rfl, hv, p, q, r, rfl⟩
  ·exact k1 hv _ _ _
  ·exact k2 hv _ _ _
theorem b7F (i : It) (h : Hp) (hb : NmB i.e) : R a7r [.agg (itr i)] h = some (.int .i64 (itE i), h) := by
 rw [← c1L]
 apply Wp.val
 have hbx : a6t 10 (.agg (evr i.e)) = some (.fptr (evr i.e)) := a3i 10 _ rfl
 have q5 : a0a tab a0E 5 (.fptr (evr i.e)) = some (.fptr [.int .i64 i.e.a5, .int .i64 i.e.a6, .str i.e.s7, .str i.e.s8, i.e.fd]) := id rfl
 have q6 : a0a tab a0E 6 (.fptr (evr i.e)) = some (.fptr [.int .i64 i.e.a6, .str i.e.s7, .str i.e.s8, i.e.fd]) := id rfl
 have q7 : a0a tab a0E 7 (.fptr (evr i.e)) = some (.fptr [.str i.e.s7, .str i.e.s8, i.e.fd]) := id rfl
 have q8 : a0a tab a0E 8 (.fptr (evr i.e)) = some (.fptr [.str i.e.s8, i.e.fd]) := id rfl
 have q9 : a0a tab a0E 9 (.fptr (evr i.e)) = some (.fptr [i.e.fd]) := id rfl
 rw [c7s]
 simp only [c2X, a1b, bs, d4X, c1J, c0m, c1K, evL, hbx, a2c, a0g]
 unfold itR
 by_cases c0 : i.r = []
 ·simp only [c0, beq_self_eq_true, a0d, if_true, c5R i.e h hb, bs]
  exact .some rfl
 have c0' : (i.r == []) = false := by simpa using c0
 simp only [c0, c0', a0d, d4Y, if_false, a4x, bs, a0v]
 by_cases c1 : 32 < i.r.length
 ·have c1' : (i.r.length : Int) > 32 := by omega
  simp only [c1, c1', decide_true, if_true]
  exact .some rfl
 have c1' : ¬ (i.r.length : Int) > 32 := by omega
 simp only [c1, c1', decide_false, d4Y, if_false, c0F, bs, a0t, ne_eq]
 by_cases c2 : plB i.e = true
 case neg =>
  have c2' : plB i.e = false := by simpa using c2
  simp only [c2', d4Y, if_false, show ¬ (2 : Int) = 0 by omega, not_false_eq_true, decide_true, a0d, if_true]
  exact .some rfl
 simp only [c2, if_true, not_true, decide_false, a0d, d4Y, d4Z, if_false, c0G, bs, a0t, ne_eq]
 generalize a2g i.e 20000 = L
 by_cases c3 : L ≠ 0 ∧ L ≠ 3
 ·obtain ⟨c4, c5⟩ := c3
  simp only [ne_eq, c4, c5, not_false_eq_true, decide_true, a0r, if_true, bs, a0e, a0d, and_self, a0t]
  exact .some rfl
 have c3' : decide (¬ L = 0) = true → decide (¬ L = 3) = false := by
  intro q
  have q : ¬ L = 0 := by simpa using q
  by_cases h3 : L = 3
  ·simp [-bind_some, h3]
  ·exact absurd ⟨q, h3⟩ c3
 rw [if_neg (by simpa [-bind_some, ne_eq] using c3)]
 have step : ∀ (K : D → Option (D × Hp)), ((gd (.bool (decide (¬ L = 0))) true (some (.int .i64 L))).bind fun t29 => (gd (.bool (decide (¬ L = 0))) true (a0k tab .neq a5n t29 (.int .i64 3))).bind fun t30 => (a0M (.bool (decide (¬ L = 0))) t30 (.bool false)).bind K) = K (.bool false) := by
  intro K
  cases hq : decide (¬ L = 0) with
  | false => simp only [a0r, d4Y, if_false, reduceCtorEq, bs, a0e]
  | true => simp only [a0r, if_true, bs, a0t, ne_eq, c3' hq, a0e]
 rw [step]
 simp only [a0d, d4Y, if_false, q5, q6, q7, q8, q9, ld3, ld9, b4u, bs, a0t, a1U, a1W i.e.hfd, d4X, ne_eq]
 have hfl : (i.e.fs.length : Int) = 0 ↔ i.e.fs.length = 0 := by omega
 by_cases d1n : ¬ i.e.a5 = 0
 ·simp only [d1n, not_false_eq_true, true_or, decide_true, a0r, a1f, reduceCtorEq, if_true, d4Z, if_false, bs, a0e, a0d]
  exact .some rfl
 have d1 : i.e.a5 = 0 := Decidable.not_not.1 d1n
 by_cases d2n : ¬ i.e.a6 = 0
 ·simp only [d1, d2n, not_true, not_false_eq_true, true_or, false_or, decide_true, decide_false, a0r, a1f, q6, ld3, a0t, ne_eq, reduceCtorEq, if_true, d4Z, d4Y, if_false, bs, a0e, a0d]
  exact .some rfl
 have d2 : i.e.a6 = 0 := Decidable.not_not.1 d2n
 by_cases d3n : ¬ i.e.s7 = []
 ·have d3b : (i.e.s7 == []) = false := by simpa using d3n
  simp only [d1, d2, d3n, d3b, not_true, not_false_eq_true, true_or, false_or, decide_true, decide_false, a0r, a1f, q6, q7, ld3, ld9, a0t, a1U, ne_eq, d5j, reduceCtorEq, if_true, d4Z, d4Y, if_false, bs, a0e, a0d]
  exact .some rfl
 have d3 : i.e.s7 = [] := Decidable.not_not.1 d3n
 by_cases d4n : ¬ i.e.s8 = []
 ·have d4b : (i.e.s8 == []) = false := by simpa using d4n
  simp only [d1, d2, d3, d4n, d4b, not_true, not_false_eq_true, true_or, false_or, decide_true, decide_false, a0r, a1f, q6, q7, q8, ld3, ld9, a0t, a1U, ne_eq, beq_self_eq_true, d5i, d5j, reduceCtorEq, if_true, d4Z, d4Y, if_false, bs, a0e, a0d]
  exact .some rfl
 have d4 : i.e.s8 = [] := Decidable.not_not.1 d4n
 by_cases d5n : ¬ i.e.fs.length = 0
 ·simp only [d1, d2, d3, d4, d5n, hfl, not_true, not_false_eq_true, true_or, false_or, decide_true, decide_false, a0r, a1f, q6, q7, q8, q9, ld3, ld9, b4u, a1W i.e.hfd, a0t, a1U, ne_eq, beq_self_eq_true, d5i, d5j, reduceCtorEq, if_true, d4Z, d4Y, if_false, bs, a0e, a0d]
  exact .some rfl
 have d5 : i.e.fs.length = 0 := Decidable.not_not.1 d5n
 simp only [d1, d2, d3, d4, d5, hfl, not_true, false_or, decide_false, a0r, a1f, q6, q7, q8, q9, ld3, ld9, b4u, a1W i.e.hfd, a0t, a1U, ne_eq, beq_self_eq_true, d5i, reduceCtorEq, if_true, d4Y, if_false, bs, a0e, a0d]
 refine d0M i.e h _ _ _ (fun hv x y z => ?_) (fun hv x y z => ?_)
 ·simp only [a0l, a0o, bs, a0g, hv, d4Y, if_false]
  exact .some rfl
 ·simp only [a1J, a1I, a1H, a0f, bs, a0g, hv, if_true]
  exact .some rfl
theorem a8Y {l : List Int} {d : D} (hd : SlOf 1 byr l d) (n0 : Nat) (h : Hp) (n : Nat) : frz n0 h (n + 1) d = d := a3n hd fun a _ x hx => a5d n0 h n a x hx
theorem b1l {l : List Int} {d : D} (hd : SlOf 1 byr l d) (n : Nat) : Ok n d := a2e hd fun a _ x hx => by
 simp only [byr, List.mem_singleton] at hx
 subst hx
 constructor
def RdS (B : List Int) (d : D) (s : Cur) (x : D) : Prop := ∃ n : Nat, x = .agg [d, .int .i64 n, .bool (!s.2)] ∧ n ≤ B.length ∧ B.drop n = s.1
structure M2 (h g : Hp) (T1 z1 T2 z2 : Nat) (a b : List D) : Prop where
 ha : g[h.length]? = some (.row T1 z1 [a])
 hb : g[h.length + 1]? = some (.row T2 z2 [b])
 hl : h.length + 2 ≤ g.length
 lo : ∀ q, q < h.length → g[q]? = h[q]?
theorem M2.new (h : Hp) (T1 z1 T2 z2 : Nat) (a b : List D) : M2 h (a0F (a0F h T1 z1 [a]) T2 z2 [b]) T1 z1 T2 z2 a b := by
 have hl : (a0F h T1 z1 [a]).length = h.length + 1 := by simp [-bind_some, a0F]
 refine ⟨?_, ?_, by simp [-bind_some, a0F], fun q hq => ?_⟩
 ·rw [a0U _ _ _ _ (by omega)]; exact a1q _ _ _ _
 ·rw [← hl]; exact a1q _ _ _ _
 ·rw [a0U _ _ _ _ (by omega), a0U _ _ _ _ hq]
theorem M2.keep {h g g' : Hp} {T1 z1 T2 z2 : Nat} {a b : List D} (M : M2 h g T1 z1 T2 z2 a b) (hl : g.length ≤ g'.length) (ho : ∀ q, q < g.length → g'[q]? = g[q]?) : M2 h g' T1 z1 T2 z2 a b := by
 have h1 := M.hl
 exact ⟨by rw [ho _ (by omega)]; exact M.ha, by rw [ho _ (by omega)]; exact M.hb, by omega, fun q hq => by rw [ho q (by omega)]; exact M.lo q hq⟩
theorem M2.sta {h g g' : Hp} {T1 z1 T2 z2 : Nat} {a b x : List D} (M : M2 h g T1 z1 T2 z2 a b) (p : g'[h.length]? = some (.row T1 z1 [x])) (s : Same h.length g g') : M2 h g' T1 z1 T2 z2 x b :=
 ⟨p, by rw [s.2 _ (by omega)]; exact M.hb, by rw [s.1]; exact M.hl, fun q hq => by rw [s.2 q (by omega)]; exact M.lo q hq⟩
theorem M2.stb {h g g' : Hp} {T1 z1 T2 z2 : Nat} {a b x : List D} (M : M2 h g T1 z1 T2 z2 a b) (p : g'[h.length + 1]? = some (.row T2 z2 [x])) (s : Same (h.length + 1) g g') : M2 h g' T1 z1 T2 z2 a x :=
 ⟨by rw [s.2 _ (by omega)]; exact M.ha, p, by rw [s.1]; exact M.hl, fun q hq => by rw [s.2 q (by omega)]; exact M.lo q hq⟩
theorem a2V {g : Hp} {n : Nat} {d x y : D} (h : g[n]? = some (.row a0m 3 [[d, x, y]])) : a0c tab g a0H (.ptr n 0 (0 + 0)) = some d ∧ a0c tab g ty3 (.ptr n 0 (0 + 1)) = some x ∧ a0c tab g ty4 (.ptr n 0 (0 + 2)) = some y ∧ a0c tab g a0m (.ptr n 0 0) = some (.agg [d, x, y]) := by
 refine ⟨?_, ?_, ?_, ?_⟩
 ·rw [b9o, a0V h]; rfl
 ·rw [b0L, a0V h]; rfl
 ·rw [d2w, a0V h]; rfl
 ·rw [c1W, a0V h]; rfl
theorem a6p {g : Hp} {n T : Nat} {a b c x y z : D} (h : g[n]? = some (.row T 3 [[a, b, c]])) {β : Type} {f : Hp → Option β} {Q : β → Prop} (k : ∀ g', g'[n]? = some (.row T 3 [[x, y, z]]) → Same n g g' → Wp (f g') Q) : Wp ((a0h tab g a0m (.ptr n 0 0) (.agg [x, y, z])).bind f) Q :=
 c2G (kk := 0) (row := [a, b, c]) h rfl rfl (by simp) rfl fun g' p s => k g' p s
theorem b7x {g : Hp} {n T : Nat} {a b c : D} {v : Bool} (h : g[n]? = some (.row T 3 [[a, b, c]])) {β : Type} {f : Hp → Option β} {Q : β → Prop} (k : ∀ g', g'[n]? = some (.row T 3 [[a, b, .bool v]]) → Same n g g' → Wp (f g') Q) : Wp ((a0h tab g ty4 (.ptr n 0 (0 + 2)) (.bool v)).bind f) Q :=
 d2i (kk := 0) (row := [a, b, c]) h rfl rfl (by simp) rfl fun g' p s => k g' p s
theorem b7w {g : Hp} {n T : Nat} {a b c : D} {v : Int} (h : g[n]? = some (.row T 3 [[a, b, c]])) {β : Type} {f : Hp → Option β} {Q : β → Prop} (k : ∀ g', g'[n]? = some (.row T 3 [[a, .int .i64 v, c]]) → Same n g g' → Wp (f g') Q) : Wp ((a0h tab g ty3 (.ptr n 0 (0 + 1)) (.int .i64 v)).bind f) Q :=
 b8s (kk := 0) (row := [a, b, c]) h rfl rfl (by simp) rfl fun g' p s => k g' p s
theorem b0U {h g : Hp} {B : List Int} {d : D} (hd : SlOf 1 byr B d) {n : Nat} {b : Bool} {v : D} (hv : ∀ m k, frz m g (k + 1) v = v) (hk : Ok h.length v) (hl : h.length ≤ g.length) (hb : ∀ q, q < h.length → g[q]? = h[q]?) : scope h g (.tup [.agg [d, .int .i64 n, .bool b], v]) = some (.tup [.agg [d, .int .i64 n, .bool b], v], h) := by
 refine a1i ?_ ?_ hl hb
 ·simp [-bind_some, a8Y hd, hv]
 ·refine .tup _ fun y hy => ?_
  simp at hy
  rcases hy with rfl | rfl
  ·refine .agg _ fun y hy => ?_
   simp at hy
   rcases hy with rfl | rfl | rfl
   ·exact b1l hd _
   ·constructor
   ·constructor
  ·exact hk
theorem b4z {B : List Int} {d x : D} {s : Cur} (h : Hp) (hd : SlOf 1 byr B d) (hB : B.length ≤ 1000000000) (hu : ∀ z ∈ B, U8 z) (hx : RdS B d s x) (n : Nat) (hn : n ≤ 8) : ∃ x', R a3d [x, .int .i64 n] h = some (.tup [x', .int .u64 (num (a0N s n).1)], h) ∧ RdS B d (a0N s n).2 x' := by
 suffices Wp (R a3d [x, .int .i64 n] h) (fun p => p.2 = h ∧ ∃ x', p.1 = .tup [x', .int .u64 (num (a0N s n).1)] ∧ RdS B d (a0N s n).2 x') by
  obtain ⟨⟨y, h'⟩, h1, rfl, x', rfl, h2⟩ := this
  exact ⟨x', h1, h2⟩
 obtain ⟨a, rfl, ha, hs⟩ := hx
 have hl0 : (a0F h a0m 3 [[d, .int .i64 a, .bool (!s.2)]]).length = h.length + 1 := by simp [-bind_some, a0F]
 have M := M2.new h a0m 3 a0m 3 [d, .int .i64 a, .bool (!s.2)] [.nils, .int .i64 0, .bool false]
 rw [c8D]
 simp only [c3Y, a2W a0m 3 h [d, .int .i64 a, .bool (!s.2)] rfl (by omega), bs, d4X, hl0]
 generalize a0F (a0F h a0m 3 [[d, .int .i64 a, .bool (!s.2)]]) a0m 3 [[.nils, .int .i64 0, .bool false]] = g at *
 obtain ⟨l0, l1, l2, l3⟩ := a2V M.ha
 have wl : IntKind.wrap .i64 ((B.length : Int) - a) = (B.length : Int) - a := wrap_i64 (by omega) (by omega)
 have hsl : (s.1.length : Int) = (B.length : Int) - a := by rw [← hs]; simp [-bind_some]; omega
 simp only [a5M, a4q, a3z, l2, a1m, bs, Bool.not_not]
 have bad : ∀ b : Bool, s = (s.1, b) → ((a0N s n).1 = [] ∧ (a0N s n).2 = (s.1, true)) → Wp ((a0h tab g ty4 (.ptr h.length 0 (0 + 2)) (.bool false)).bind fun h' => (a0c tab h' a0m (.ptr h.length 0 0)).bind fun t22 => (a0h tab h' a0m (.ptr (h.length + 1) 0 0) t22).bind fun h' => (a0c tab h' a0m (.ptr (h.length + 1) 0 0)).bind fun d => scope h h' (a0i [d, .int .u64 0])) (fun p => p.2 = h ∧ ∃ x', p.1 = .tup [x', .int .u64 (num (a0N s n).1)] ∧ RdS B d (a0N s n).2 x') := by
  intro b _ ⟨t1, t2⟩
  refine b7x M.ha fun g1 p1 s1 => ?_
  have M1 := M.sta p1 s1
  simp only [(a2V M1.ha).2.2.2, bs]
  refine a6p M1.hb fun g2 p2 s2 => ?_
  have M2' := M1.stb p2 s2
  simp only [(a2V M2'.hb).2.2.2, bs, a0S]
  rw [b0U hd (by simp) (by constructor) (by have := M2'.hl; omega) M2'.lo]
  exact .some ⟨rfl, _, by rw [t1]; rfl, a, by rw [t2]; rfl, ha, by rw [t2]; exact hs⟩
 cases hb : s.2 with
 | true =>
  simp only [a0r, if_true, reduceCtorEq, d4Z, if_false, bs, a0e, a0d, d5i, d5j]
  have ht : a0N s n = ([], (s.1, true)) := by unfold a0N; rw [if_pos (.inl hb)]
  exact bad true (by rw [← hb]) ⟨by rw [ht], by rw [ht]⟩
 | false =>
  simp only [a0r, if_true, l0, l1, a1l hd, a0B, wl, a0j, bs, a0e, a0d, d5i, d5j, d4Y, if_false]
  by_cases hsh : (B.length : Int) - a < n
  ·simp only [hsh, decide_true, if_true]
   have ht : a0N s n = ([], (s.1, true)) := by unfold a0N; rw [if_pos (.inr (.inr (by omega)))]
   exact bad false (by rw [← hb]) ⟨by rw [ht], by rw [ht]⟩
  ·simp only [hsh, decide_false, d4Y, if_false]
   have ht : a0N s n = (s.1.take n, (s.1.drop n, false)) := by unfold a0N; rw [if_neg (by rw [hb]; simp [-bind_some]; omega), d5h]
   rw [ht]
   have hln : n ≤ s.1.length := by omega
   refine Wp.loop (fun k ds g' => g' = g ∧ ∃ y, ∃ i : Nat, ds = [.int .u64 (num (s.1.take i)), .int .i64 i, y] ∧ k + i = n) (fun r => r.1 = .ext 0 ∧ r.2.2 = g ∧ ∃ y z, r.2.1 = [.int .u64 (num (s.1.take n)), y, z]) n ⟨rfl, _, 0, rfl, rfl⟩ ?_ ?_
   ·rintro k ds g' ⟨rfl, y, i, rfl, hk⟩
    simp only [b2x, a0f, a0n, bs, d4X, a0j]
    refine Wp.dif ?_ ?_
    ·intro h0
     have h0 : i < n := dl_ h0
     obtain ⟨z, hz⟩ : ∃ z, s.1[i]? = some z := ⟨_, d5o (by omega)⟩
     have hzB : B[a + i]? = some z := by rw [← hs, List.getElem?_drop] at hz; exact hz
     have hzu := hu z (d5m hzB)
     have hw := wi_ i (by omega)
     have hw2 : IntKind.wrap .i64 ((a : Int) + (i : Int)) = ((a + i : Nat) : Int) := by
      rw [wrap_i64 (by omega) (by omega)]; omega
     unfold U8 at hzu
     have hus : ∀ z ∈ s.1, U8 z := fun z hz => hu z (by rw [← hs] at hz; exact List.mem_of_mem_drop hz)
     obtain ⟨hn0, hn1⟩ := a2m i (s.1.take i) (by simp; omega) fun z hz => hus z (List.mem_of_mem_take hz)
     have hb : num (s.1.take i) < 72057594037927936 := by
      have : i = 0 ∨ i = 1 ∨ i = 2 ∨ i = 3 ∨ i = 4 ∨ i = 5 ∨ i = 6 ∨ i = 7 := by omega
      rcases this with rfl | rfl | rfl | rfl | rfl | rfl | rfl | rfl <;> omega
     have m3 : min ((8 : Int).toNat) IntKind.u64.bits = 8 := by decide
     have p3 : (2 : Int) ^ 8 = 256 := by decide
     have w1 : IntKind.wrap .u64 (num (s.1.take i) * 2 ^ 8) = num (s.1.take i) * 2 ^ 8 := by rw [p3]; exact a1j (by omega) (by omega)
     have w2 : IntKind.wrap .u64 z = z := a1j (by omega) (by omega)
     have w3 := b3F (x := num (s.1.take i)) (b := z) 8 hn0 (by omega) (by rw [p3]; omega) (by rw [p3]; omega)
     have hii0 : ∀ m : Nat, B[m]? = some z → a0b tab a0H d (.int .i64 (m : Int)) = some (.fptr (byr z)) := fun m hm => by rw [a3X hd]; simp [-bind_some, hm]
     have hii := hii0 _ hzB
     rw [p3, ← a4Q hz] at w3
     rw [p3] at w1
     simp only [a5M, a4q, l0, l1, a0u, hw2, hii, a7d, bs, a5C, show ¬ (8 : Int) < 0 by omega, if_false, m3, p3, w1, a5B, w2, a7j, w3, hw]
     exact .some (.inl ⟨rfl, k - 1, by omega, rfl, _, i + 1, rfl, by omega⟩)
    ·intro h0
     have h0 : i = n := by
      have : ¬ (i : Int) < n := by simpa using h0
      omega
     subst h0
     exact .some (.inr ⟨by simp, rfl, rfl, _, _, rfl⟩)
   ·rintro ⟨ex, ds, g'⟩ ⟨rfl, q2, y, z, rfl⟩
    simp only at q2
    subst q2
    have hw2 : IntKind.wrap .i64 ((a : Int) + (n : Int)) = ((a + n : Nat) : Int) := by
     rw [wrap_i64 (by omega) (by omega)]; omega
    simp only [a0l, a0o, bs, a0f, a4q, l1, a0u, hw2]
    refine b7w M.ha fun g1 p1 s1 => ?_
    have M1 := M.sta p1 s1
    simp only [(a2V M1.ha).2.2.2, bs]
    refine a6p M1.hb fun g2 p2 s2 => ?_
    have M2' := M1.stb p2 s2
    simp only [(a2V M2'.hb).2.2.2, bs, a0S]
    rw [b0U hd (by simp) (by constructor) (by have := M2'.hl; omega) M2'.lo]
    exact .some ⟨rfl, _, rfl, a + n, by rw [hb], by omega, by rw [← hs, List.drop_drop]⟩
theorem d1F {B : List Int} {d x : D} {s : Cur} (h : Hp) (hd : SlOf 1 byr B d) (hB : B.length ≤ 1000000000) (hu : ∀ z ∈ B, U8 z) (hx : RdS B d s x) : ∃ x', R a3B [x] h = some (.tup [x', .int .i64 (a1k s).1], h) ∧ RdS B d (a1k s).2 x' := by
 suffices Wp (R a3B [x] h) (fun p => p.2 = h ∧ ∃ x', p.1 = .tup [x', .int .i64 (a1k s).1] ∧ RdS B d (a1k s).2 x') by
  obtain ⟨⟨y, h'⟩, h1, rfl, x', rfl, h2⟩ := this
  exact ⟨x', h1, h2⟩
 have hx0 := hx
 obtain ⟨a, rfl, ha, hs⟩ := hx
 have hl0 : (a0F h a0m 3 [[d, .int .i64 a, .bool (!s.2)]]).length = h.length + 1 := by simp [-bind_some, a0F]
 have M := M2.new h a0m 3 a0m 3 [d, .int .i64 a, .bool (!s.2)] [.nils, .int .i64 0, .bool false]
 rw [c8F]
 simp only [c4a, a2W a0m 3 h [d, .int .i64 a, .bool (!s.2)] rfl (by omega), bs, d4X, hl0]
 generalize a0F (a0F h a0m 3 [[d, .int .i64 a, .bool (!s.2)]]) a0m 3 [[.nils, .int .i64 0, .bool false]] = g at *
 obtain ⟨l0, l1, l2, l3⟩ := a2V M.ha
 obtain ⟨x1, e1, r1⟩ := b4z g hd hB hu hx0 8 (by omega)
 obtain ⟨a1, rfl, ha1, hs1⟩ := r1
 have e1 : R a3d [.agg [d, .int .i64 a, .bool (!s.2)], .int .i64 8] g = _ := e1
 simp only [l3, bs, e1, a0A, d5a, d5b]
 refine a6p M.ha fun g1 p1 s1 => ?_
 have M1 := M.sta p1 s1
 simp only [(a2V M1.ha).2.2.2, a2T, bs]
 refine a6p M1.hb fun g2 p2 s2 => ?_
 have M2' := M1.stb p2 s2
 simp only [(a2V M2'.hb).2.2.2, bs, a0S]
 rw [b0U hd (by simp) (by constructor) (by have := M2'.hl; omega) M2'.lo]
 exact .some ⟨rfl, _, rfl, a1, rfl, ha1, hs1⟩
theorem a9w {s : Cur} (hu : ∀ z ∈ s.1, U8 z) : (a1B s).1 = num (a0N s 4).1 ∧ 0 ≤ num (a0N s 4).1 ∧ num (a0N s 4).1 < 4294967296 := by
 have h5 := a6W hu 4
 have hl : (a0N s 4).1.length ≤ 4 := a5Y s 4
 obtain ⟨r0, r1⟩ := a2m _ _ rfl h5.1
 have r2 : num (a0N s 4).1 < 4294967296 := by
  have hc : (a0N s 4).1.length = 0 ∨ (a0N s 4).1.length = 1 ∨ (a0N s 4).1.length = 2 ∨ (a0N s 4).1.length = 3 ∨ (a0N s 4).1.length = 4 := by omega
  rcases hc with h | h | h | h | h <;> rw [h] at r1 <;> omega
 exact ⟨wrap_i64 (by omega) (by omega), r0, r2⟩
theorem d1E {B : List Int} {d x : D} {s : Cur} (h : Hp) (hd : SlOf 1 byr B d) (hB : B.length ≤ 1000000000) (hu : ∀ z ∈ B, U8 z) (hx : RdS B d s x) : ∃ x', R a4u [x] h = some (.tup [x', .str ((a0O s).1.getD [])], h) ∧ RdS B d (a0O s).2 x' := by
 suffices Wp (R a4u [x] h) (fun p => p.2 = h ∧ ∃ x', p.1 = .tup [x', .str ((a0O s).1.getD [])] ∧ RdS B d (a0O s).2 x') by
  obtain ⟨⟨y, h'⟩, h1, rfl, x', rfl, h2⟩ := this
  exact ⟨x', h1, h2⟩
 have hx0 := hx
 obtain ⟨a, rfl, ha, hs⟩ := hx
 have hus : ∀ z ∈ s.1, U8 z := fun z hz => hu z (by rw [← hs] at hz; exact List.mem_of_mem_drop hz)
 have hl0 : (a0F h a0m 3 [[d, .int .i64 a, .bool (!s.2)]]).length = h.length + 1 := by simp [-bind_some, a0F]
 have M := M2.new h a0m 3 a0m 3 [d, .int .i64 a, .bool (!s.2)] [.nils, .int .i64 0, .bool false]
 rw [c8E]
 simp only [c3Z, a2W a0m 3 h [d, .int .i64 a, .bool (!s.2)] rfl (by omega), bs, d4X, hl0]
 generalize a0F (a0F h a0m 3 [[d, .int .i64 a, .bool (!s.2)]]) a0m 3 [[.nils, .int .i64 0, .bool false]] = g at *
 obtain ⟨l0, l1, l2, l3⟩ := a2V M.ha
 obtain ⟨x1, e1, r1⟩ := b4z g hd hB hu hx0 4 (by omega)
 obtain ⟨a1, rfl, ha1, hs1⟩ := r1
 have e1 : R a3d [.agg [d, .int .i64 a, .bool (!s.2)], .int .i64 4] g = _ := e1
 obtain ⟨n1, n2, n3⟩ := a9w hus
 have hc4 : a0N s ((4 : Nat) : Int) = a0N s 4 := rfl
 rw [hc4] at e1 hs1
 have hc2 : (a0N s 4).2 = (a1B s).2 := rfl
 rw [hc2] at e1 hs1
 simp only [l3, bs, e1, a0A, d5a, d5b]
 rw [← n1] at n2 n3
 rw [← n1]
 refine a6p M.ha fun g1 p1 s1 => ?_
 have M1 := M.sta p1 s1
 obtain ⟨k0, k1, k2, k3⟩ := a2V M1.ha
 unfold a0O
 generalize (a1B s).2 = c at *
 generalize (a1B s).1 = N at *
 obtain ⟨n, rfl⟩ := Int.eq_ofNat_of_zero_le n2
 have wl : IntKind.wrap .i64 ((B.length : Int) - a1) = (B.length : Int) - a1 := wrap_i64 (by omega) (by omega)
 have wu : IntKind.wrap .u64 ((B.length : Int) - a1) = (B.length : Int) - a1 := a1j (by omega) (by omega)
 have wn : IntKind.wrap .i64 (n : Int) = (n : Int) := wrap_i64 (by omega) (by omega)
 have wan : IntKind.wrap .i64 ((a1 : Int) + (n : Int)) = ((a1 + n : Nat) : Int) := by
  rw [wrap_i64 (by omega) (by omega)]; omega
 have hsl : (c.1.length : Int) = (B.length : Int) - a1 := by rw [← hs1]; simp [-bind_some]; omega
 simp only [a5M, a4q, a3z, k2, a1m, bs, Bool.not_not]
 have bad : a0N c n = ([], (c.1, true)) → Wp ((a0h tab g1 ty4 (.ptr h.length 0 (0 + 2)) (.bool false)).bind fun h' => (a0c tab h' a0m (.ptr h.length 0 0)).bind fun t22 => (a0h tab h' a0m (.ptr (h.length + 1) 0 0) t22).bind fun h' => (a0c tab h' a0m (.ptr (h.length + 1) 0 0)).bind fun d => scope h h' (a0i [d, .str []])) (fun p => p.2 = h ∧ ∃ x', p.1 = .tup [x', .str ((if (a0N c n).2.2 = true then ((none : Option Str), (a0N c n).2) else (some (bys (a0N c n).1), (a0N c n).2)).1.getD [])] ∧ RdS B d (if (a0N c n).2.2 = true then ((none : Option Str), (a0N c n).2) else (some (bys (a0N c n).1), (a0N c n).2)).2 x') := by
  intro t1
  rw [t1]
  simp only [if_true]
  refine b7x M1.ha fun g2 p2 s2 => ?_
  have M2 := M1.sta p2 s2
  simp only [(a2V M2.ha).2.2.2, bs]
  refine a6p M2.hb fun g3 p3 s3 => ?_
  have M3 := M2.stb p3 s3
  simp only [(a2V M3.hb).2.2.2, bs, a0S]
  rw [b0U hd (by simp) (by constructor) (by have := M3.hl; omega) M3.lo]
  exact .some ⟨rfl, _, rfl, a1, rfl, ha1, hs1⟩
 cases hb : c.2 with
 | true =>
  simp only [a0r, if_true, reduceCtorEq, d4Z, if_false, bs, a0e, a0d, d5i, d5j]
  have ht : a0N c n = ([], (c.1, true)) := by unfold a0N; rw [if_pos (.inl hb)]
  exact bad ht
 | false =>
  simp only [a0r, if_true, k0, k1, a1l hd, a0B, wl, a2f, wu, a0v, bs, a0e, a0d, d5i, d5j, d4Y, if_false]
  by_cases hsh : (n : Int) > (B.length : Int) - a1
  ·simp only [hsh, decide_true, if_true]
   have ht : a0N c n = ([], (c.1, true)) := by unfold a0N; rw [if_pos (.inr (.inr (by omega)))]
   exact bad ht
  ·simp only [hsh, decide_false, d4Y, if_false]
   have ht : a0N c n = (c.1.take n, (c.1.drop n, false)) := by unfold a0N; rw [if_neg (by rw [hb]; simp [-bind_some]; omega), d5h]
   rw [ht]
   obtain ⟨dc, ec, sc⟩ := a7h hd a1 (a1 + n) (by omega) (by omega)
   have lc : (B.take (a1 + n)).drop a1 = c.1.take n := by rw [← hs1, List.drop_take]; congr 1; omega
   rw [lc] at sc
   simp only [a2T, wn, a0u, wan, ec, a6X sc, bs, d4Y, if_false]
   refine b7w M1.ha fun g2 p2 s2 => ?_
   have M2 := M1.sta p2 s2
   simp only [(a2V M2.ha).2.2.2, bs]
   refine a6p M2.hb fun g3 p3 s3 => ?_
   have M3 := M2.stb p3 s3
   simp only [(a2V M3.hb).2.2.2, bs, a0S]
   rw [b0U hd (by simp) (by constructor) (by have := M3.hl; omega) M3.lo]
   exact .some ⟨rfl, _, rfl, a1 + n, by rw [hb], by omega, by rw [← hs1, List.drop_drop]⟩
def RdC (B : List Int) (d : D) (g : Hp) (o : Nat) (s : Cur) : Prop := ∃ n : Nat, g[o]? = some (.row a0m 3 [[d, .int .i64 n, .bool (!s.2)]]) ∧ n ≤ B.length ∧ B.drop n = s.1
theorem RdC.keep {B : List Int} {d : D} {g g' : Hp} {o : Nat} {s : Cur} (C : RdC B d g o s) (h : g'[o]? = g[o]?) : RdC B d g' o s := by
 obtain ⟨n, h1, h2⟩ := C
 exact ⟨n, by rw [h]; exact h1, h2⟩
theorem RdC.lt {B : List Int} {d : D} {g : Hp} {o : Nat} {s : Cur} (C : RdC B d g o s) : o < g.length := by
 obtain ⟨n, h1, h2⟩ := C
 exact (d5p.1 h1).1
theorem RdC.ok {B : List Int} {d : D} {g : Hp} {o : Nat} {s : Cur} (C : RdC B d g o s) : a0c tab g ty4 (.ptr o 0 (0 + 2)) = some (.bool (!s.2)) := by
 obtain ⟨n, h1, h2⟩ := C
 exact (a2V h1).2.2.1
theorem RdC.all {B : List Int} {d : D} {g : Hp} {o : Nat} {s : Cur} (C : RdC B d g o s) : ∃ x, a0c tab g a0m (.ptr o 0 0) = some x ∧ RdS B d s x := by
 obtain ⟨n, h1, h2⟩ := C
 exact ⟨_, (a2V h1).2.2.2, n, rfl, h2⟩
theorem RdC.st {B : List Int} {d x : D} {g : Hp} {o : Nat} {s s' : Cur} (C : RdC B d g o s) (hx : RdS B d s' x) {β : Type} {f : Hp → Option β} {Q : β → Prop} (k : ∀ g', RdC B d g' o s' → Same o g g' → Wp (f g') Q) : Wp ((a0h tab g a0m (.ptr o 0 0) x).bind f) Q := by
 obtain ⟨n, h1, h2⟩ := C
 obtain ⟨m, rfl, h3⟩ := hx
 exact a6p h1 fun g' p s => k g' ⟨m, p, h3⟩ s
theorem rdI {B : List Int} {d : D} {g : Hp} {o : Nat} {s : Cur} (hd : SlOf 1 byr B d) (hB : B.length ≤ 1000000000) (hu : ∀ z ∈ B, U8 z) (C : RdC B d g o s) {β : Type} {f : D → Hp → Option β} {Q : β → Prop} (k : ∀ g', RdC B d g' o (a1k s).2 → Same o g g' → Wp (f (.int .i64 (a1k s).1) g') Q) :
  Wp ((a0c tab g a0m (.ptr o 0 0)).bind fun t => (R a3B [t] g).bind fun p => (a0p 0 p.1).bind fun a => (a0p 1 p.1).bind fun b => (a0h tab p.2 a0m (.ptr o 0 0) a).bind fun g' => f b g') Q := by
 obtain ⟨x, l, r⟩ := C.all
 obtain ⟨x', e, r'⟩ := d1F g hd hB hu r
 simp only [l, bs, e, a0A, d5a, d5b]
 exact C.st r' k
theorem rdT {B : List Int} {d : D} {g : Hp} {o : Nat} {s : Cur} (hd : SlOf 1 byr B d) (hB : B.length ≤ 1000000000) (hu : ∀ z ∈ B, U8 z) (C : RdC B d g o s) {β : Type} {f : D → Hp → Option β} {Q : β → Prop} (k : ∀ g', RdC B d g' o (a0O s).2 → Same o g g' → Wp (f (.str ((a0O s).1.getD [])) g') Q) :
  Wp ((a0c tab g a0m (.ptr o 0 0)).bind fun t => (R a4u [t] g).bind fun p => (a0p 0 p.1).bind fun a => (a0p 1 p.1).bind fun b => (a0h tab p.2 a0m (.ptr o 0 0) a).bind fun g' => f b g') Q := by
 obtain ⟨x, l, r⟩ := C.all
 obtain ⟨x', e, r'⟩ := d1E g hd hB hu r
 simp only [l, bs, e, a0A, d5a, d5b]
 exact C.st r' k
def a3w : Nat → Cur → List Lin × Cur
 | 0, s => ([], s)
 | n + 1, s => if s.2 = true then ([], s) else ((a4z s).1 :: (a3w n (a4z s).2).1, (a3w n (a4z s).2).2)
def a3v : Nat → Cur → List (Str × Str) × Cur
 | 0, s => ([], s)
 | n + 1, s => if s.2 = true then ([], s) else ((fdS s).1 :: (a3v n (fdS s).2).1, (a3v n (fdS s).2).2)
theorem b3N (n : Nat) (s : Cur) (h : s.2 = true) : a3w n s = ([], s) := by
 cases n with
 | zero => rfl
 | succ n => simp [-bind_some, a3w, h]
theorem b3L (n : Nat) (s : Cur) (h : s.2 = true) : a3v n s = ([], s) := by
 cases n with
 | zero => rfl
 | succ n => simp [-bind_some, a3v, h]
theorem d1G {B : List Int} {d x : D} {s : Cur} (h : Hp) (hd : SlOf 1 byr B d) (hB : B.length ≤ 1000000000) (hu : ∀ z ∈ B, U8 z) (hx : RdS B d s x) : ∃ x' ld, R b0z [x] h = some (.tup [x', ld], h) ∧ RdS B d (a3w (a1B s).1.toNat (a1B s).2).2 x' ∧ SlOf 3 a1p (a3w (a1B s).1.toNat (a1B s).2).1 ld := by
 suffices Wp (R b0z [x] h) (fun p => p.2 = h ∧ ∃ x' ld, p.1 = .tup [x', ld] ∧ RdS B d (a3w (a1B s).1.toNat (a1B s).2).2 x' ∧ SlOf 3 a1p (a3w (a1B s).1.toNat (a1B s).2).1 ld) by
  obtain ⟨⟨y, h'⟩, h1, rfl, x', ld, rfl, h2⟩ := this
  exact ⟨x', ld, h1, h2⟩
 have hx0 := hx
 obtain ⟨a, rfl, ha, hs⟩ := hx
 have hus : ∀ z ∈ s.1, U8 z := fun z hz => hu z (by rw [← hs] at hz; exact List.mem_of_mem_drop hz)
 have hl0 : (a0F h a0m 3 [[d, .int .i64 a, .bool (!s.2)]]).length = h.length + 1 := by simp [-bind_some, a0F]
 have M := M2.new h a0m 3 a0m 3 [d, .int .i64 a, .bool (!s.2)] [.nils, .int .i64 0, .bool false]
 rw [c8G]
 simp only [c4b, a2W a0m 3 h [d, .int .i64 a, .bool (!s.2)] rfl (by omega), bs, d4X, hl0]
 generalize a0F (a0F h a0m 3 [[d, .int .i64 a, .bool (!s.2)]]) a0m 3 [[.nils, .int .i64 0, .bool false]] = g at *
 have l3 := (a2V M.ha).2.2.2
 obtain ⟨x1, e1, r1⟩ := b4z g hd hB hu hx0 4 (by omega)
 obtain ⟨a1, rfl, ha1, hs1⟩ := r1
 have e1 : R a3d [.agg [d, .int .i64 a, .bool (!s.2)], .int .i64 4] g = _ := e1
 obtain ⟨n1, n2, n3⟩ := a9w hus
 have hc4 : a0N s ((4 : Nat) : Int) = a0N s 4 := rfl
 rw [hc4] at e1 hs1
 have hc2 : (a0N s 4).2 = (a1B s).2 := rfl
 rw [hc2] at e1 hs1
 simp only [l3, bs, e1, a0A, d5a, d5b]
 rw [← n1] at n2 n3
 rw [← n1]
 refine a6p M.ha fun g1 p1 s1 => ?_
 have M1 := M.sta p1 s1
 have C1 : RdC B d g1 h.length (a1B s).2 := ⟨a1, p1, ha1, hs1⟩
 generalize (a1B s).2 = c at *
 generalize (a1B s).1 = N at *
 obtain ⟨n, rfl⟩ := Int.eq_ofNat_of_zero_le n2
 rw [d5h]
 refine Wp.loop (fun k ds g' => ∃ y1 y2 ld, ∃ i : Nat, ∃ L : List Lin, ∃ s' : Cur, ds = [ld, .int .u64 i, y1, y2] ∧ k + i = n ∧ RdC B d g' h.length s' ∧ g'[h.length + 1]? = some (.row a0m 3 [[.nils, .int .i64 0, .bool false]]) ∧ (∀ q, q < h.length → g'[q]? = h[q]?) ∧ Own g' (h.length + 2) a1A 3 (L.map a1p) ld ∧ h.length + 2 ≤ g'.length ∧ L.length ≤ i ∧ L ++ (a3w k s').1 = (a3w n c).1 ∧ (a3w k s').2 = (a3w n c).2)
  (fun r => r.1 = .ext 0 ∧ ∃ y1 y2 y3 ld, r.2.1 = [ld, y1, y2, y3] ∧ RdC B d r.2.2 h.length (a3w n c).2 ∧ r.2.2[h.length + 1]? = some (.row a0m 3 [[.nils, .int .i64 0, .bool false]]) ∧ (∀ q, q < h.length → r.2.2[q]? = h[q]?) ∧ Own r.2.2 (h.length + 2) a1A 3 ((a3w n c).1.map a1p) ld ∧ h.length + 2 ≤ r.2.2.length) n ⟨_, _, .nils, 0, [], c, rfl, rfl, C1, M1.hb, M1.lo, Own.nils _ _ _ _, M1.hl, by simp, by simp, rfl⟩ ?_ ?_
 ·rintro k ds g' ⟨y1, y2, ld, i, L, s', rfl, hk, C, hb, lo, ow, hgl, hL, q1, q2⟩
  simp only [b2y, a0f, a0n, bs, d4X, a3z, C.ok]
  have stop : (s'.2 = true ∨ k = 0) → a3w k s' = ([], s') := by
   rintro (h0 | h0)
   ·exact b3N k s' h0
   ·rw [h0]; rfl
  have fin : (s'.2 = true ∨ k = 0) → ∀ u v w, Wp (some (Ex.ext 0, [ld, u, v, w], g')) (fun r => (r.1 = .nrm ∧ ∃ k' < k, ∃ y1 y2 ld, ∃ i : Nat, ∃ L : List Lin, ∃ s' : Cur, r.2.1 = [ld, .int .u64 i, y1, y2] ∧ k' + i = n ∧ RdC B d r.2.2 h.length s' ∧ r.2.2[h.length + 1]? = some (.row a0m 3 [[.nils, .int .i64 0, .bool false]]) ∧ (∀ q, q < h.length → r.2.2[q]? = h[q]?) ∧ Own r.2.2 (h.length + 2) a1A 3 (L.map a1p) ld ∧ h.length + 2 ≤ r.2.2.length ∧ L.length ≤ i ∧ L ++ (a3w k' s').1 = (a3w n c).1 ∧ (a3w k' s').2 = (a3w n c).2) ∨ (r.1 ≠ .nrm ∧ (r.1 = .ext 0 ∧ ∃ y1 y2 y3 ld, r.2.1 = [ld, y1, y2, y3] ∧ RdC B d r.2.2 h.length (a3w n c).2 ∧ r.2.2[h.length + 1]? = some (.row a0m 3 [[.nils, .int .i64 0, .bool false]]) ∧ (∀ q, q < h.length → r.2.2[q]? = h[q]?) ∧ Own r.2.2 (h.length + 2) a1A 3 ((a3w n c).1.map a1p) ld ∧ h.length + 2 ≤ r.2.2.length))) := by
   intro h0 u v w
   have h1 := stop h0
   rw [h1] at q1 q2
   simp only [List.append_nil] at q1 q2
   refine .some (.inr ⟨by simp, rfl, _, _, _, ld, rfl, by rw [← q2]; exact C, hb, lo, by rw [← q1]; exact ow, hgl⟩)
  cases hb2 : s'.2 with
  | true =>
   simp only [d5i, a0r, d4Y, reduceCtorEq, if_false, bs, a0e, a0d]
   exact fin (.inl hb2) _ _ _
  | false =>
   simp only [d5j, a0r, if_true, bs, a0j, a0e, a0d]
   by_cases hin : i < n
   case neg =>
    have hin' : ¬ (i : Int) < (n : Int) := by omega
    simp only [hin', decide_false, d4Y, if_false]
    exact fin (.inr (by omega)) _ _ _
   have hin' : (i : Int) < (n : Int) := by omega
   simp only [hin', decide_true, if_true]
   obtain ⟨k', rfl⟩ : ∃ k', k = k' + 1 := ⟨k - 1, by omega⟩
   have hlS : a3w (k' + 1) s' = ((a4z s').1 :: (a3w k' (a4z s').2).1, (a3w k' (a4z s').2).2) := by simp [-bind_some, a3w, hb2]
   rw [hlS] at q1 q2
   have hN0 : (a0F g' a1A 3 [a3f])[g'.length]? = some (.row a1A 3 [a3f]) := a1q _ _ _ _
   have hNl : (a0F g' a1A 3 [a3f]).length = g'.length + 1 := by simp [-bind_some, a0F]
   have hNo : ∀ q, q < g'.length → (a0F g' a1A 3 [a3f])[q]? = g'[q]? := fun q hq => a0U _ _ _ _ hq
   have hz : ([.int .i64 0, .int .i64 0, .str []] : List D) = a3f := rfl
   have hob : ∀ q, ld.inOb q → q < g'.length := fun q hq => (d5p.1 (a3l ow hq)).1
   have hCl := C.lt
   have C2 : RdC B d (a0F g' a1A 3 [a3f]) h.length s' := C.keep (hNo _ hCl)
   try simp only [hz]
   generalize a0F g' a1A 3 [a3f] = g2 at *
   refine rdI hd hB hu C2 fun g3 C3 s3 => ?_
   have p3 : g3[g'.length]? = some (.row a1A 3 [a3f]) := by rw [s3.2 _ (by omega)]; exact hN0
   simp only [a3b, a3c, a2M]
   refine b8s (kk := 0) (row := a3f) p3 rfl rfl (by simp [-bind_some, a3f]) rfl fun g4 p4 s4 => ?_
   have p4 : g4[g'.length]? = some (.row a1A 3 [[.int .i64 (a1k s').1, .int .i64 0, .str []]]) := p4
   have C4 : RdC B d g4 h.length (a1k s').2 := C3.keep (s4.2 _ (by omega))
   try simp only [bs]
   refine rdI hd hB hu C4 fun g5 C5 s5 => ?_
   have p5 : g5[g'.length]? = some (.row a1A 3 [[.int .i64 (a1k s').1, .int .i64 0, .str []]]) := by rw [s5.2 _ (by omega)]; exact p4
   refine b8s (kk := 0) p5 rfl rfl (by simp) rfl fun g6 p6 s6 => ?_
   have p6 : g6[g'.length]? = some (.row a1A 3 [[.int .i64 (a1k s').1, .int .i64 (a1k (a1k s').2).1, .str []]]) := p6
   have C6 : RdC B d g6 h.length (a1k (a1k s').2).2 := C5.keep (s6.2 _ (by omega))
   try simp only [bs]
   refine rdT hd hB hu C6 fun g7 C7 s7 => ?_
   have p7 : g7[g'.length]? = some (.row a1A 3 [[.int .i64 (a1k s').1, .int .i64 (a1k (a1k s').2).1, .str []]]) := by rw [s7.2 _ (by omega)]; exact p6
   refine b9M (kk := 0) p7 rfl rfl (by simp) rfl fun g8 p8 s8 => ?_
   have p8 : g8[g'.length]? = some (.row a1A 3 [a1p (a4z s').1]) := p8
   have C8 : RdC B d g8 h.length (a4z s').2 := C7.keep (s8.2 _ (by omega))
   have ld8 : a0c tab g8 a1A (.ptr g'.length 0 0) = some (.agg (a1p (a4z s').1)) := by rw [c5r, a0V p8]; rfl
   have hbz : a1h tab a1u 1 [0] [.agg (a1p (a4z s').1)] = some (.sl 3 true [a1p (a4z s').1]) := id rfl
   have hoth : ∀ q, q ≠ h.length → q < g'.length → g8[q]? = g'[q]? := fun q h1 h2 => by
    rw [s8.2 q (by omega), s7.2 q h1, s6.2 q (by omega), s5.2 q h1, s4.2 q (by omega), s3.2 q h1, hNo q h2]
   have hl8 : g8.length = g'.length + 1 := by rw [s8.1, s7.1, s6.1, s5.1, s4.1, s3.1, hNl]
   have ow8 : Own g8 (h.length + 2) a1A 3 (L.map a1p) ld := ow.keep fun q hq hx => hoth q (by omega) (hob q hx)
   have wi : IntKind.wrap .u64 ((i : Int) + 1) = ((i + 1 : Nat) : Int) := by rw [a1j (by omega) (by omega)]; omega
   simp only [bs, ld8, hbz]
   refine b4E (ys := [a1p (a4z s').1]) (by omega) ow8 (a1g _ _ _ _) (by simp; omega) fun ld2 g9 ow9 a4x bel9 old9 _ => ?_
   simp only [bs, a0u, wi]
   refine .some (.inl ⟨rfl, k', by omega, _, _, ld2, i + 1, L ++ [(a4z s').1], (a4z s').2, rfl, by omega, C8.keep (bel9 _ (by omega)), ?_, fun q hq => ?_, by rw [d5e]; exact ow9, (by show _ ≤ g9.length; omega), by simp; omega, ?_, q2⟩)
   ·rw [bel9 _ (by omega), hoth _ (by omega) (by omega)]; exact hb
   ·rw [bel9 _ (by omega), hoth _ (by omega) (by omega)]; exact lo q hq
   ·rw [← q1]; simp [-bind_some]
 ·rintro ⟨ex, ds, g'⟩ ⟨rfl, y1, y2, y3, ld, rfl, C, hb, lo, ow, hgl⟩
  simp only at C hb lo ow hgl
  obtain ⟨m, hm, hm2, hm3⟩ := C
  simp only [a0l, a0o, bs, a0f, (a2V hm).2.2.2]
  refine a6p hb fun g2 p2 s2 => ?_
  have hob : ∀ q, ld.inOb q → q ≠ h.length + 1 := fun q hq hh => by
   rcases ow with ⟨rfl, _⟩ | ⟨o, h1, rfl, _⟩
   ·exact a8r q hq
   ·obtain ⟨z, n, hx⟩ := hq
    injection hx with _ h2
    omega
  have ow2 : Own g2 (h.length + 2) a1A 3 ((a3w n c).1.map a1p) ld := ow.keep fun q hq hx => s2.2 q (hob q hx)
  simp only [(a2V p2).2.2.2, bs, a0S]
  have sl := a2C (n0 := h.length) (n := 2) ow2 (by omega) fun a _ => a3Y _ g2 _ a
  rw [a1i (d' := .tup [.agg [d, .int .i64 m, .bool (!(a3w n c).2.2)], frz h.length g2 3 ld]) (by simp [-bind_some, a8Y hd]) (by
   refine .tup _ fun y hy => ?_
   simp at hy
   rcases hy with rfl | rfl
   ·refine .agg _ fun y hy => ?_
    simp at hy
    rcases hy with rfl | rfl | rfl
    ·exact b1l hd _
    ·constructor
    ·constructor
   ·exact a2e sl fun a _ => b1H _ a) (by rw [s2.1]; omega) (fun q hq => by rw [s2.2 q (by omega)]; exact lo q hq)]
  exact .some ⟨rfl, _, _, rfl, ⟨m, rfl, hm2, hm3⟩, sl⟩
theorem d1H {B : List Int} {d x : D} {s : Cur} (h : Hp) (hd : SlOf 1 byr B d) (hB : B.length ≤ 1000000000) (hu : ∀ z ∈ B, U8 z) (hx : RdS B d s x) : ∃ x' ld, R b0A [x] h = some (.tup [x', ld], h) ∧ RdS B d (a3v (a1B s).1.toNat (a1B s).2).2 x' ∧ SlOf 2 fld (a3v (a1B s).1.toNat (a1B s).2).1 ld := by
 suffices Wp (R b0A [x] h) (fun p => p.2 = h ∧ ∃ x' ld, p.1 = .tup [x', ld] ∧ RdS B d (a3v (a1B s).1.toNat (a1B s).2).2 x' ∧ SlOf 2 fld (a3v (a1B s).1.toNat (a1B s).2).1 ld) by
  obtain ⟨⟨y, h'⟩, h1, rfl, x', ld, rfl, h2⟩ := this
  exact ⟨x', ld, h1, h2⟩
 have hx0 := hx
 obtain ⟨a, rfl, ha, hs⟩ := hx
 have hus : ∀ z ∈ s.1, U8 z := fun z hz => hu z (by rw [← hs] at hz; exact List.mem_of_mem_drop hz)
 have hl0 : (a0F h a0m 3 [[d, .int .i64 a, .bool (!s.2)]]).length = h.length + 1 := by simp [-bind_some, a0F]
 have M := M2.new h a0m 3 a0m 3 [d, .int .i64 a, .bool (!s.2)] [.nils, .int .i64 0, .bool false]
 rw [c8H]
 simp only [c4c, a2W a0m 3 h [d, .int .i64 a, .bool (!s.2)] rfl (by omega), bs, d4X, hl0]
 generalize a0F (a0F h a0m 3 [[d, .int .i64 a, .bool (!s.2)]]) a0m 3 [[.nils, .int .i64 0, .bool false]] = g at *
 have l3 := (a2V M.ha).2.2.2
 obtain ⟨x1, e1, r1⟩ := b4z g hd hB hu hx0 4 (by omega)
 obtain ⟨a1, rfl, ha1, hs1⟩ := r1
 have e1 : R a3d [.agg [d, .int .i64 a, .bool (!s.2)], .int .i64 4] g = _ := e1
 obtain ⟨n1, n2, n3⟩ := a9w hus
 have hc4 : a0N s ((4 : Nat) : Int) = a0N s 4 := rfl
 rw [hc4] at e1 hs1
 have hc2 : (a0N s 4).2 = (a1B s).2 := rfl
 rw [hc2] at e1 hs1
 simp only [l3, bs, e1, a0A, d5a, d5b]
 rw [← n1] at n2 n3
 rw [← n1]
 refine a6p M.ha fun g1 p1 s1 => ?_
 have M1 := M.sta p1 s1
 have C1 : RdC B d g1 h.length (a1B s).2 := ⟨a1, p1, ha1, hs1⟩
 generalize (a1B s).2 = c at *
 generalize (a1B s).1 = N at *
 obtain ⟨n, rfl⟩ := Int.eq_ofNat_of_zero_le n2
 rw [d5h]
 refine Wp.loop (fun k ds g' => ∃ y1 y2 ld, ∃ i : Nat, ∃ L : List (Str × Str), ∃ s' : Cur, ds = [ld, .int .u64 i, y1, y2] ∧ k + i = n ∧ RdC B d g' h.length s' ∧ g'[h.length + 1]? = some (.row a0m 3 [[.nils, .int .i64 0, .bool false]]) ∧ (∀ q, q < h.length → g'[q]? = h[q]?) ∧ Own g' (h.length + 2) a0w 2 (L.map fld) ld ∧ h.length + 2 ≤ g'.length ∧ L.length ≤ i ∧ L ++ (a3v k s').1 = (a3v n c).1 ∧ (a3v k s').2 = (a3v n c).2)
  (fun r => r.1 = .ext 0 ∧ ∃ y1 y2 y3 ld, r.2.1 = [ld, y1, y2, y3] ∧ RdC B d r.2.2 h.length (a3v n c).2 ∧ r.2.2[h.length + 1]? = some (.row a0m 3 [[.nils, .int .i64 0, .bool false]]) ∧ (∀ q, q < h.length → r.2.2[q]? = h[q]?) ∧ Own r.2.2 (h.length + 2) a0w 2 ((a3v n c).1.map fld) ld ∧ h.length + 2 ≤ r.2.2.length) n ⟨_, _, .nils, 0, [], c, rfl, rfl, C1, M1.hb, M1.lo, Own.nils _ _ _ _, M1.hl, by simp, by simp, rfl⟩ ?_ ?_
 ·rintro k ds g' ⟨y1, y2, ld, i, L, s', rfl, hk, C, hb, lo, ow, hgl, hL, q1, q2⟩
  simp only [b2z, a0f, a0n, bs, d4X, a3z, C.ok]
  have stop : (s'.2 = true ∨ k = 0) → a3v k s' = ([], s') := by
   rintro (h0 | h0)
   ·exact b3L k s' h0
   ·rw [h0]; rfl
  have fin : (s'.2 = true ∨ k = 0) → ∀ u v w, Wp (some (Ex.ext 0, [ld, u, v, w], g')) (fun r => (r.1 = .nrm ∧ ∃ k' < k, ∃ y1 y2 ld, ∃ i : Nat, ∃ L : List (Str × Str), ∃ s' : Cur, r.2.1 = [ld, .int .u64 i, y1, y2] ∧ k' + i = n ∧ RdC B d r.2.2 h.length s' ∧ r.2.2[h.length + 1]? = some (.row a0m 3 [[.nils, .int .i64 0, .bool false]]) ∧ (∀ q, q < h.length → r.2.2[q]? = h[q]?) ∧ Own r.2.2 (h.length + 2) a0w 2 (L.map fld) ld ∧ h.length + 2 ≤ r.2.2.length ∧ L.length ≤ i ∧ L ++ (a3v k' s').1 = (a3v n c).1 ∧ (a3v k' s').2 = (a3v n c).2) ∨ (r.1 ≠ .nrm ∧ (r.1 = .ext 0 ∧ ∃ y1 y2 y3 ld, r.2.1 = [ld, y1, y2, y3] ∧ RdC B d r.2.2 h.length (a3v n c).2 ∧ r.2.2[h.length + 1]? = some (.row a0m 3 [[.nils, .int .i64 0, .bool false]]) ∧ (∀ q, q < h.length → r.2.2[q]? = h[q]?) ∧ Own r.2.2 (h.length + 2) a0w 2 ((a3v n c).1.map fld) ld ∧ h.length + 2 ≤ r.2.2.length))) := by
   intro h0 u v w
   have h1 := stop h0
   rw [h1] at q1 q2
   simp only [List.append_nil] at q1 q2
   refine .some (.inr ⟨by simp, rfl, _, _, _, ld, rfl, by rw [← q2]; exact C, hb, lo, by rw [← q1]; exact ow, hgl⟩)
  cases hb2 : s'.2 with
  | true =>
   simp only [d5i, a0r, d4Y, reduceCtorEq, if_false, bs, a0e, a0d]
   exact fin (.inl hb2) _ _ _
  | false =>
   simp only [d5j, a0r, if_true, bs, a0j, a0e, a0d]
   by_cases hin : i < n
   case neg =>
    have hin' : ¬ (i : Int) < (n : Int) := by omega
    simp only [hin', decide_false, d4Y, if_false]
    exact fin (.inr (by omega)) _ _ _
   have hin' : (i : Int) < (n : Int) := by omega
   simp only [hin', decide_true, if_true]
   obtain ⟨k', rfl⟩ : ∃ k', k = k' + 1 := ⟨k - 1, by omega⟩
   have hlS : a3v (k' + 1) s' = ((fdS s').1 :: (a3v k' (fdS s').2).1, (a3v k' (fdS s').2).2) := by simp [-bind_some, a3v, hb2]
   rw [hlS] at q1 q2
   have hN0 : (a0F g' a0w 2 [a7M])[g'.length]? = some (.row a0w 2 [a7M]) := a1q _ _ _ _
   have hNl : (a0F g' a0w 2 [a7M]).length = g'.length + 1 := by simp [-bind_some, a0F]
   have hNo : ∀ q, q < g'.length → (a0F g' a0w 2 [a7M])[q]? = g'[q]? := fun q hq => a0U _ _ _ _ hq
   have hz : ([.str [], .str []] : List D) = a7M := rfl
   have hob : ∀ q, ld.inOb q → q < g'.length := fun q hq => (d5p.1 (a3l ow hq)).1
   have hCl := C.lt
   have C2 : RdC B d (a0F g' a0w 2 [a7M]) h.length s' := C.keep (hNo _ hCl)
   try simp only [hz]
   generalize a0F g' a0w 2 [a7M] = g2 at *
   refine rdT hd hB hu C2 fun g3 C3 s3 => ?_
   have p3 : g3[g'.length]? = some (.row a0w 2 [a7M]) := by rw [s3.2 _ (by omega)]; exact hN0
   simp only [a5J, a9h]
   refine b9M (kk := 0) (row := a7M) p3 rfl rfl (by simp [-bind_some, a7M]) rfl fun g4 p4 s4 => ?_
   have p4 : g4[g'.length]? = some (.row a0w 2 [[.str ((a0O s').1.getD []), .str []]]) := p4
   have C4 : RdC B d g4 h.length (a0O s').2 := C3.keep (s4.2 _ (by omega))
   try simp only [bs]
   refine rdT hd hB hu C4 fun g7 C7 s7 => ?_
   have p7 : g7[g'.length]? = some (.row a0w 2 [[.str ((a0O s').1.getD []), .str []]]) := by rw [s7.2 _ (by omega)]; exact p4
   refine b9M (kk := 0) p7 rfl rfl (by simp) rfl fun g8 p8 s8 => ?_
   have p8 : g8[g'.length]? = some (.row a0w 2 [fld (fdS s').1]) := p8
   have C8 : RdC B d g8 h.length (fdS s').2 := C7.keep (s8.2 _ (by omega))
   have ld8 : a0c tab g8 a0w (.ptr g'.length 0 0) = some (.agg (fld (fdS s').1)) := by rw [b3u, a0V p8]; rfl
   have hbz : a1h tab a1c 1 [0] [.agg (fld (fdS s').1)] = some (.sl 2 true [fld (fdS s').1]) := id rfl
   have hoth : ∀ q, q ≠ h.length → q < g'.length → g8[q]? = g'[q]? := fun q h1 h2 => by
    rw [s8.2 q (by omega), s7.2 q h1, s4.2 q (by omega), s3.2 q h1, hNo q h2]
   have hl8 : g8.length = g'.length + 1 := by rw [s8.1, s7.1, s4.1, s3.1, hNl]
   have ow8 : Own g8 (h.length + 2) a0w 2 (L.map fld) ld := ow.keep fun q hq hx => hoth q (by omega) (hob q hx)
   have wi : IntKind.wrap .u64 ((i : Int) + 1) = ((i + 1 : Nat) : Int) := by rw [a1j (by omega) (by omega)]; omega
   simp only [bs, ld8, hbz]
   refine b9L (ys := [fld (fdS s').1]) (by omega) ow8 (a1g _ _ _ _) (by simp; omega) fun ld2 g9 ow9 a4x bel9 old9 _ => ?_
   simp only [bs, a0u, wi]
   refine .some (.inl ⟨rfl, k', by omega, _, _, ld2, i + 1, L ++ [(fdS s').1], (fdS s').2, rfl, by omega, C8.keep (bel9 _ (by omega)), ?_, fun q hq => ?_, by rw [d5e]; exact ow9, (by show _ ≤ g9.length; omega), by simp; omega, ?_, q2⟩)
   ·rw [bel9 _ (by omega), hoth _ (by omega) (by omega)]; exact hb
   ·rw [bel9 _ (by omega), hoth _ (by omega) (by omega)]; exact lo q hq
   ·rw [← q1]; simp [-bind_some]
 ·rintro ⟨ex, ds, g'⟩ ⟨rfl, y1, y2, y3, ld, rfl, C, hb, lo, ow, hgl⟩
  simp only at C hb lo ow hgl
  obtain ⟨m, hm, hm2, hm3⟩ := C
  simp only [a0l, a0o, bs, a0f, (a2V hm).2.2.2]
  refine a6p hb fun g2 p2 s2 => ?_
  have hob : ∀ q, ld.inOb q → q ≠ h.length + 1 := fun q hq hh => by
   rcases ow with ⟨rfl, _⟩ | ⟨o, h1, rfl, _⟩
   ·exact a8r q hq
   ·obtain ⟨z, n, hx⟩ := hq
    injection hx with _ h2
    omega
  have ow2 : Own g2 (h.length + 2) a0w 2 ((a3v n c).1.map fld) ld := ow.keep fun q hq hx => s2.2 q (hob q hx)
  simp only [(a2V p2).2.2.2, bs, a0S]
  have sl := a2C (n0 := h.length) (n := 2) ow2 (by omega) fun a _ => a6i _ g2 _ a
  rw [a1i (d' := .tup [.agg [d, .int .i64 m, .bool (!(a3v n c).2.2)], frz h.length g2 3 ld]) (by simp [-bind_some, a8Y hd]) (by
   refine .tup _ fun y hy => ?_
   simp at hy
   rcases hy with rfl | rfl
   ·refine .agg _ fun y hy => ?_
    simp at hy
    rcases hy with rfl | rfl | rfl
    ·exact b1l hd _
    ·constructor
    ·constructor
   ·exact a2e sl fun a _ => b2U _ a) (by rw [s2.1]; omega) (fun q hq => by rw [s2.2 q (by omega)]; exact lo q hq)]
  exact .some ⟨rfl, _, _, rfl, ⟨m, rfl, hm2, hm3⟩, sl⟩
def rvL (s : Cur) : List Lin × Cur := a3w (a1B (a3M s)).1.toNat (a1B (a3M s)).2
def rvC (s : Cur) : Cur := (a0O (a0O (a1k (a1k (rvL s).2).2).2).2).2
def rvF (s : Cur) : List (Str × Str) × Cur := a3v (a1B (rvC s)).1.toNat (a1B (rvC s)).2
def rvI (s : Cur) : RI :=
 { r := (a0O s).1.getD [], a0 := (a1k (a0O s).2).1, a1 := (a1k (a1k (a0O s).2).2).1, a2 := (a1k (a1k (a1k (a0O s).2).2).2).1, a3 := (a1k (a1k (a1k (a1k (a0O s).2).2).2).2).1,
   ls := (rvL s).1, a5 := (a1k (rvL s).2).1, a6 := (a1k (a1k (rvL s).2).2).1, t7 := (a0O (a1k (a1k (rvL s).2).2).2).1.getD [], t8 := (a0O (a0O (a1k (a1k (rvL s).2).2).2).2).1.getD [],
   fs := (rvF s).1 }
def a8e (c : Int) (l : List Int) : Int × Int × RI :=
 if l.length < 4 then (14, 0, ⟨[], 0, 0, 0, 0, [], 0, 0, [], [], []⟩)
 else if num (l.take 4) < 4 ∨ (l.length : Int) - 4 < num (l.take 4) then (14, 0, ⟨[], 0, 0, 0, 0, [], 0, 0, [], [], []⟩)
 else if a3K (l.take (num (l.take 4)).toNat) ≠ num ((l.drop (num (l.take 4)).toNat).take 4) then (15, 0, ⟨[], 0, 0, 0, 0, [], 0, 0, [], [], []⟩)
 else if (rvF ((l.take (num (l.take 4)).toNat).drop 4, false)).2.2 = true ∨ (rvF ((l.take (num (l.take 4)).toNat).drop 4, false)).2.1 ≠ [] ∨ c ≠ 0 then (1, 0, ⟨[], 0, 0, 0, 0, [], 0, 0, [], [], []⟩)
 else (0, num (l.take 4) + 4, rvI ((l.take (num (l.take 4)).toNat).drop 4, false))
theorem b3O : ∀ (n : Nat) (s : Cur), (a3w n s).1.length ≤ n
 | 0, s => Nat.le_refl _
 | n + 1, s => by
  have := b3O n (a4z s).2
  unfold a3w
  split
  ·simp [-bind_some]
  ·simp only [d5q]; omega
theorem b3M : ∀ (n : Nat) (s : Cur), (a3v n s).1.length ≤ n
 | 0, s => Nat.le_refl _
 | n + 1, s => by
  have := b3M n (fdS s).2
  unfold a3v
  split
  ·simp [-bind_some]
  ·simp only [d5q]; omega
structure DcS (h g : Hp) (B : List Int) (d : D) (x : List D) (s : Cur) : Prop where
 hr : g[h.length]? = some (.row a0D 11 [itr zit])
 C : RdC B d g (h.length + 1) s
 hi : g[h.length + 2]? = some (.row a0D 11 [x])
 lo : ∀ q, q < h.length → g[q]? = h[q]?
theorem DcS.to {h g g' : Hp} {B : List Int} {d : D} {x y : List D} {s s' : Cur} (S : DcS h g B d x s) {g1 : Hp} (C : RdC B d g1 (h.length + 1) s') (s1 : Same (h.length + 1) g g1) (p : g'[h.length + 2]? = some (.row a0D 11 [y])) (s2 : Same (h.length + 2) g1 g') : DcS h g' B d y s' :=
 ⟨by rw [s2.2 _ (by omega), s1.2 _ (by omega)]; exact S.hr, C.keep (s2.2 _ (by omega)), p, fun q hq => by rw [s2.2 q (by omega), s1.2 q (by omega)]; exact S.lo q hq⟩
theorem c6t (x : List D) (off : Nat) (v : D) (ho : off < x.length) (hv : v.one = true) : ([x].set 0 (spl x off (a0z v))) = [x.set off v] := by
 rw [b1U _ _ _ hv ho]; rfl
theorem dcI {h g : Hp} {B : List Int} {d : D} {x : List D} {s : Cur} (S : DcS h g B d x s) (hd : SlOf 1 byr B d) (hB : B.length ≤ 1000000000) (hu : ∀ z ∈ B, U8 z) {off : Nat} (ho : off < x.length) {β : Type} {f : Hp → Option β} {Q : β → Prop} (k : ∀ g', DcS h g' B d (x.set off (.int .i64 (a1k s).1)) (a1k s).2 → Wp (f g') Q) :
  Wp ((a0c tab g a0m (.ptr (h.length + 1) 0 0)).bind fun t => (R a3B [t] g).bind fun p => (a0p 0 p.1).bind fun a => (a0p 1 p.1).bind fun b => (a0h tab p.2 a0m (.ptr (h.length + 1) 0 0) a).bind fun g' => (a0h tab g' ty3 (.ptr (h.length + 2) 0 off) b).bind f) Q := by
 refine rdI hd hB hu S.C fun g1 C1 s1 => ?_
 have p1 : g1[h.length + 2]? = some (.row a0D 11 [x]) := by rw [s1.2 _ (by omega)]; exact S.hi
 refine b8s (kk := 0) (row := x) p1 rfl rfl (by omega) rfl fun g2 p2 s2 => ?_
 rw [c6t x off _ ho rfl] at p2
 exact k g2 (S.to C1 s1 p2 s2)
theorem dcT {h g : Hp} {B : List Int} {d : D} {x : List D} {s : Cur} (S : DcS h g B d x s) (hd : SlOf 1 byr B d) (hB : B.length ≤ 1000000000) (hu : ∀ z ∈ B, U8 z) {off : Nat} (ho : off < x.length) {β : Type} {f : Hp → Option β} {Q : β → Prop} (k : ∀ g', DcS h g' B d (x.set off (.str ((a0O s).1.getD []))) (a0O s).2 → Wp (f g') Q) :
  Wp ((a0c tab g a0m (.ptr (h.length + 1) 0 0)).bind fun t => (R a4u [t] g).bind fun p => (a0p 0 p.1).bind fun a => (a0p 1 p.1).bind fun b => (a0h tab p.2 a0m (.ptr (h.length + 1) 0 0) a).bind fun g' => (a0h tab g' ty9 (.ptr (h.length + 2) 0 off) b).bind f) Q := by
 refine rdT hd hB hu S.C fun g1 C1 s1 => ?_
 have p1 : g1[h.length + 2]? = some (.row a0D 11 [x]) := by rw [s1.2 _ (by omega)]; exact S.hi
 refine b9M (kk := 0) (row := x) p1 rfl rfl (by omega) rfl fun g2 p2 s2 => ?_
 rw [c6t x off _ ho rfl] at p2
 exact k g2 (S.to C1 s1 p2 s2)
theorem dcL {h g : Hp} {B : List Int} {d : D} {x : List D} {s : Cur} (S : DcS h g B d x s) (hd : SlOf 1 byr B d) (hB : B.length ≤ 1000000000) (hu : ∀ z ∈ B, U8 z) {off : Nat} (ho : off < x.length) {β : Type} {f : Hp → Option β} {Q : β → Prop} (k : ∀ g' ld, SlOf 3 a1p (a3w (a1B s).1.toNat (a1B s).2).1 ld → DcS h g' B d (x.set off ld) (a3w (a1B s).1.toNat (a1B s).2).2 → Wp (f g') Q) :
  Wp ((a0c tab g a0m (.ptr (h.length + 1) 0 0)).bind fun t => (R b0z [t] g).bind fun p => (a0p 0 p.1).bind fun a => (a0p 1 p.1).bind fun b => (a0h tab p.2 a0m (.ptr (h.length + 1) 0 0) a).bind fun g' => (a0h tab g' a1u (.ptr (h.length + 2) 0 off) b).bind f) Q := by
 obtain ⟨y, l, r⟩ := S.C.all
 obtain ⟨x', ld, e, r', sl⟩ := d1G g hd hB hu r
 simp only [l, bs, e, a0A, d5a, d5b]
 refine S.C.st r' fun g1 C1 s1 => ?_
 have p1 : g1[h.length + 2]? = some (.row a0D 11 [x]) := by rw [s1.2 _ (by omega)]; exact S.hi
 have o1 := a1z sl
 refine b8o (kk := 0) (row := x) p1 rfl (by rw [(a0T o1).1]; rfl) (by omega) (a0T o1).2 fun g2 p2 s2 => ?_
 rw [c6t x off _ ho o1] at p2
 exact k g2 ld sl (S.to C1 s1 p2 s2)
theorem dcF {h g : Hp} {B : List Int} {d : D} {x : List D} {s : Cur} (S : DcS h g B d x s) (hd : SlOf 1 byr B d) (hB : B.length ≤ 1000000000) (hu : ∀ z ∈ B, U8 z) {off : Nat} (ho : off < x.length) {β : Type} {f : Hp → Option β} {Q : β → Prop} (k : ∀ g' ld, SlOf 2 fld (a3v (a1B s).1.toNat (a1B s).2).1 ld → DcS h g' B d (x.set off ld) (a3v (a1B s).1.toNat (a1B s).2).2 → Wp (f g') Q) :
  Wp ((a0c tab g a0m (.ptr (h.length + 1) 0 0)).bind fun t => (R b0A [t] g).bind fun p => (a0p 0 p.1).bind fun a => (a0p 1 p.1).bind fun b => (a0h tab p.2 a0m (.ptr (h.length + 1) 0 0) a).bind fun g' => (a0h tab g' a1c (.ptr (h.length + 2) 0 off) b).bind f) Q := by
 obtain ⟨y, l, r⟩ := S.C.all
 obtain ⟨x', ld, e, r', sl⟩ := d1H g hd hB hu r
 simp only [l, bs, e, a0A, d5a, d5b]
 refine S.C.st r' fun g1 C1 s1 => ?_
 have p1 : g1[h.length + 2]? = some (.row a0D 11 [x]) := by rw [s1.2 _ (by omega)]; exact S.hi
 have o1 := a1z sl
 refine c2I (kk := 0) (row := x) p1 rfl (by rw [(a0T o1).1]; rfl) (by omega) (a0T o1).2 fun g2 p2 s2 => ?_
 rw [c6t x off _ ho o1] at p2
 exact k g2 ld sl (S.to C1 s1 p2 s2)
end Go.Proofs.YthaajlepgblimaaGreatDoor
