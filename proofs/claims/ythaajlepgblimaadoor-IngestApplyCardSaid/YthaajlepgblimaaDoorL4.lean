/- Laws, on plain data, about functions that the statement reaches. -/
import Derived.Test.YthaajlepgblimaaDoorL3
set_option linter.unusedSimpArgs false
set_option linter.unusedVariables false
set_option linter.unnecessarySimpa false
set_option maxRecDepth 100000
namespace Go.Proofs.YthaajlepgblimaaDoor
open Go.Eng Go.Pi
open Option (bind_some)
theorem w1063 {c : Str × Str → Str × Str → Int} {S Pre : Str × Str → Str × Str → Prop} (od : SOrd c S Pre) {cmp : D} (hcmp : CmpF cmp c) {o N : Nat} (hN : N ≤ 1000000000) {g : Hp} {l : List (Str × Str)} (hl : l.length = N) (hpre : l.Pairwise Pre)
  (ho : g[o]? = some (.row ty109 2 (l.map fld))) : Wp (R fn1063 [.msl 2 o 0 N, .int .i64 N, cmp] g) fun p => ∃ C : List (Str × Str), C.Perm l ∧ C.Pairwise S ∧ p.2[o]? = some (.row ty109 2 (C.map fld)) ∧ Same o g p.2 := by
 rw [e1063]
 simp only [F1063, bs, Option.bind_assoc]
 refine Wp.loop (fun n ds g' => ∃ u, ∃ X Y : List (Str × Str), ds = [.int .i64 (X.length : Nat), .int .i64 ((X.length + 20 : Nat) : Int), u] ∧ n = Y.length ∧ (X ++ Y).Perm l ∧ Y.Pairwise Pre ∧ CtxB S Pre 20 X Y ∧ g'[o]? = some (.row ty109 2 ((X ++ Y).map fld)) ∧ Same o g g')
  (fun r => r.1 = .ext 0 ∧ ∃ u, ∃ X Y : List (Str × Str), r.2.1 = [.int .i64 (X.length : Nat), .int .i64 ((X.length + 20 : Nat) : Int), u] ∧ Y.length < 20 ∧ (X ++ Y).Perm l ∧ Y.Pairwise Pre ∧ CtxB S Pre 20 X Y ∧ r.2.2[o]? = some (.row ty109 2 ((X ++ Y).map fld)) ∧ Same o g r.2.2)
  l.length ⟨_, [], l, rfl, rfl, by simp, hpre, CtxB.nil, by simpa using ho, .refl _ _⟩ ?_ ?_
 ·rintro n ds g' ⟨u, X, Y, rfl, rfl, hp, hY, hc, ho', sm⟩
  have hXY : X.length + Y.length = N := by rw [← hl, ← hp.length_eq]; simp [-bind_some]
  simp only [F1063_L0, nth_zero, nth_succ, bs, Option.bind_assoc, dBin_leq]
  refine Wp.dif ?_ ?_
  ·intro h0
   have h0 : 20 ≤ Y.length := by have : ((X.length + 20 : Nat) : Int) ≤ (N : Int) := by simpa using h0
                                 omega
   obtain ⟨A, Y', rfl, hA⟩ : ∃ A Y', Y = A ++ Y' ∧ A.length = 20 := ⟨Y.take 20, Y.drop 20, (List.take_append_drop _ _).symm, by simp; omega⟩
   obtain ⟨y1, y2, y3⟩ := pre_split hY
   simp only [List.length_append] at hXY h0
   refine Wp.bind (ins_wp od hcmp hN (P := X) (A := A) (Q := Y') (by simp only [List.length_append]; omega) y1 (by rw [ho']; simp [-bind_some]) _ _ rfl (by omega)) ?_
   rintro ⟨d, g2⟩ ⟨C, q1, q2, q3, q4⟩
   have lC : C.length = 20 := by rw [q1.length_eq, hA]
   have w1 : IntKind.wrap .i64 (((X.length + 20 : Nat) : Int) + 20) = ((X.length + 20 + 20 : Nat) : Int) := by rw [wrap_i64 (by omega) (by omega)]; omega
   simp only [dBin_add, w1, bs]
   have eX : (X ++ C).length = X.length + 20 := by simp [-bind_some, lC]
   refine .some (.inl ⟨rfl, Y'.length, by simp only [List.length_append]; omega, _, X ++ C, Y', by rw [eX], rfl, ?_, y2, hc.step q1 lC q2 y3, q3, sm.trans q4⟩)
   refine List.Perm.trans ?_ hp
   rw [List.append_assoc]
   exact (q1.append_right Y').append_left X
  ·intro h0
   have h0 : ¬ 20 ≤ Y.length := by have : ¬ ((X.length + 20 : Nat) : Int) ≤ (N : Int) := by simpa using h0
                                   omega
   exact .some (.inr ⟨by simp, rfl, _, X, Y, rfl, by omega, hp, hY, hc, ho', sm⟩)
 rintro ⟨ex, ds, g1⟩ ⟨rfl, u, X, Y, rfl, hYl, hp, hY, hc, ho1, s1⟩
 have hXY : X.length + Y.length = N := by rw [← hl, ← hp.length_eq]; simp [-bind_some]
 simp only [unblk_self, toEnd_nrm, nth_zero, nth_succ, bs]
 refine Wp.bind (ins_wp od hcmp hN (P := X) (A := Y) (Q := []) (by simp only [List.length_append, List.length_nil]; omega) hY (by simpa using ho1) _ _ rfl (by omega)) ?_
 rintro ⟨d, g2⟩ ⟨C, q1, q2, q3, q4⟩
 have bl : Blk S Pre 20 (X ++ C) := hc.done q1 (by rw [q1.length_eq]; omega) q2
 have hpZ : (X ++ C).Perm l := (q1.append_left X).trans hp
 have q3 : g2[o]? = some (.row ty109 2 ((X ++ C).map fld)) := by simpa using q3
 have s2 : Same o g g2 := s1.trans q4
 generalize X ++ C = Z at bl hpZ q3
 clear q1 q2 hc hY ho1 s1 q4
 simp only [bs, Option.bind_assoc]
 refine Wp.loop (fun n ds g' => ∃ u1 u2 u3 u4 u5 u6, ∃ k : Nat, ∃ Z : List (Str × Str), ds = [.int .i64 (k : Int), u1, u2, u3, u4, u5, u6] ∧ n = N - k ∧ 0 < k ∧ k ≤ 2000000000 ∧ Z.Perm l ∧ Blk S Pre k Z ∧ g'[o]? = some (.row ty109 2 (Z.map fld)) ∧ Same o g g')
  (fun r => r.1 = .ext 2 ∧ ∃ u1 u2 u3 u4 u5 u6 u7, r.2.1 = [u1, u2, u3, u4, u5, u6, u7] ∧ ∃ Z : List (Str × Str), Z.Perm l ∧ Z.Pairwise S ∧ r.2.2[o]? = some (.row ty109 2 (Z.map fld)) ∧ Same o g r.2.2)
  (N - 20) ⟨_, _, _, _, _, _, 20, Z, rfl, rfl, by omega, by omega, hpZ, bl, q3, s2⟩ ?_ ?_
 ·clear q3 s2 bl hpZ Z hXY hp
  rintro n ds g3 ⟨u1, u2, u3, u4, u5, u6, k, Z, rfl, rfl, k0, k1, hp, bl, ho3, s3⟩
  have lZ : Z.length = N := by rw [hp.length_eq, hl]
  simp only [F1063_L1, nth_zero, nth_succ, bs, Option.bind_assoc, dBin_lss]
  refine Wp.dif ?_ ?_
  ·intro h0
   have h0 : k < N := by have : (k : Int) < (N : Int) := by simpa using h0
                         omega
   have w1 : IntKind.wrap .i64 ((2 : Int) * (k : Int)) = ((2 * k : Nat) : Int) := by rw [wrap_i64 (by omega) (by omega)]; omega
   simp only [dBin_mul, w1, bs, Option.bind_assoc]
   refine Wp.loop (fun n ds g' => ∃ u, ∃ X Y : List (Str × Str), ds = [.int .i64 (X.length : Nat), .int .i64 ((X.length + 2 * k : Nat) : Int), u] ∧ n = Y.length ∧ (X ++ Y).Perm l ∧ Blk S Pre k Y ∧ CtxB S Pre (2 * k) X Y ∧ g'[o]? = some (.row ty109 2 ((X ++ Y).map fld)) ∧ Same o g g')
    (fun r => r.1 = .ext 4 ∧ ∃ u v, ∃ X Y : List (Str × Str), r.2.1 = [.int .i64 (X.length : Nat), u, v] ∧ Y.length < 2 * k ∧ (X ++ Y).Perm l ∧ Blk S Pre k Y ∧ CtxB S Pre (2 * k) X Y ∧ r.2.2[o]? = some (.row ty109 2 ((X ++ Y).map fld)) ∧ Same o g r.2.2)
    N ⟨u5, [], Z, by simp, lZ.symm, by simpa using hp, bl, CtxB.nil, by simpa using ho3, s3⟩ ?_ ?_
   ·rintro n ds g4 ⟨u, X, Y, rfl, rfl, hp4, bl4, hc4, ho4, s4⟩
    have hXY : X.length + Y.length = N := by rw [← hl, ← hp4.length_eq]; simp [-bind_some]
    simp only [F1063_L2, nth_zero, nth_succ, bs, Option.bind_assoc, dBin_leq]
    refine Wp.dif ?_ ?_
    ·intro h1
     have h1 : 2 * k ≤ Y.length := by have : ((X.length + 2 * k : Nat) : Int) ≤ (N : Int) := by simpa using h1
                                      omega
     obtain ⟨A, Y1, rfl, lA, sA, pA, bY1⟩ := bl4.fst (by omega)
     simp only [List.length_append] at hXY h1
     obtain ⟨B, Y2, rfl, lB, sB, pB, bY2⟩ := bY1.fst (by omega)
     simp only [List.length_append] at hXY h1
     have w2 : IntKind.wrap .i64 ((X.length : Int) + (k : Int)) = ((X.length + A.length : Nat) : Int) := by rw [wrap_i64 (by omega) (by omega)]; omega
     simp only [dBin_add, w2, bs, Option.bind_assoc]
     refine Wp.bind (w1066 od hcmp hN (A.length + B.length) g4 X A B Y2 _ _ _ (Nat.le_refl _) (by simp only [List.length_append]; omega) (by omega) (by omega) sA sB (fun x hx y hy => pA x hx y (by simp [-bind_some, hy])) (by rw [ho4]; simp [-bind_some]) rfl rfl (by omega)) ?_
     rintro ⟨d, g5⟩ ⟨C, q1, q2, q3, q4⟩
     have lC : C.length = 2 * k := by rw [q1.length_eq, List.length_append]; omega
     have w3 : IntKind.wrap .i64 (((X.length + 2 * k : Nat) : Int) + ((2 * k : Nat) : Int)) = ((X.length + 2 * k + 2 * k : Nat) : Int) := by rw [wrap_i64 (by omega) (by omega)]; omega
     simp only [dBin_mul, dBin_add, w1, w3, bs]
     have eX : (X ++ C).length = X.length + 2 * k := by simp [-bind_some, lC]
     refine .some (.inl ⟨rfl, Y2.length, by simp only [List.length_append]; omega, _, X ++ C, Y2, by rw [eX], rfl, ?_, bY2, CtxB.step (A := A ++ B) (by rw [List.append_assoc]; exact hc4) q1 lC q2 (fun x hx y hy => ?_), q3, s4.trans q4⟩)
     ·refine List.Perm.trans ?_ hp4
      rw [List.append_assoc, ← List.append_assoc A B Y2]
      exact (q1.append_right Y2).append_left X
     ·rcases List.mem_append.1 hx with hx | hx
      ·exact pA x hx y (by simp [-bind_some, hy])
      ·exact pB x hx y hy
    ·intro h1
     have h1 : ¬ 2 * k ≤ Y.length := by have : ¬ ((X.length + 2 * k : Nat) : Int) ≤ (N : Int) := by simpa using h1
                                        omega
     exact .some (.inr ⟨by simp, rfl, _, _, X, Y, rfl, by omega, hp4, bl4, hc4, ho4, s4⟩)
   rintro ⟨ex, ds, g4⟩ ⟨rfl, u, v, X, Y, rfl, hYl, hp4, bl4, hc4, ho4, s4⟩
   have hXY : X.length + Y.length = N := by rw [← hl, ← hp4.length_eq]; simp [-bind_some]
   have w2 : IntKind.wrap .i64 ((X.length : Int) + (k : Int)) = ((X.length + k : Nat) : Int) := by rw [wrap_i64 (by omega) (by omega)]; omega
   have w4 : IntKind.wrap .i64 ((k : Int) * 2) = ((2 * k : Nat) : Int) := by rw [wrap_i64 (by omega) (by omega)]; omega
   simp only [unblk_self, toEnd_nrm, nth_zero, nth_succ, bs, dBin_add, w2, dBin_lss, Option.bind_assoc]
   refine Wp.bind (P := fun r => r.1 = .nrm ∧ ∃ Z : List (Str × Str), Z.Perm l ∧ Blk S Pre (2 * k) Z ∧ r.2.2[o]? = some (.row ty109 2 (Z.map fld)) ∧ Same o g r.2.2) ?_ ?_
   ·by_cases hm : X.length + k < N
    ·have d1 : decide (((X.length + k : Nat) : Int) < (N : Int)) = true := decide_eq_true (by omega)
     obtain ⟨A, B, rfl, lA, sA, pA, bB⟩ := bl4.fst (by omega)
     simp only [List.length_append] at hXY hYl
     have sB : B.Pairwise S := bB.all (by omega)
     simp only [d1, dIf_bool, if_true]
     refine Wp.bind (w1066 od hcmp hN (A.length + B.length) g4 X A B [] _ _ _ (Nat.le_refl _) (by simp only [List.length_append, List.length_nil]; omega) (by omega) (by omega) sA sB pA (by rw [ho4]; simp [-bind_some]) rfl (by omega) (by omega)) ?_
     rintro ⟨d, g5⟩ ⟨C, q1, q2, q3, q4⟩
     refine .some ⟨rfl, X ++ C, (q1.append_left X).trans hp4, hc4.done q1 (by rw [q1.length_eq, List.length_append]; omega) q2, by simpa using q3, s4.trans q4⟩
    ·have d1 : decide (((X.length + k : Nat) : Int) < (N : Int)) = false := decide_eq_false (by omega)
     simp only [d1, dIf_bool, Bool.false_eq_true, if_false]
     exact .some ⟨rfl, X ++ Y, hp4, hc4.done (List.Perm.refl _) (by omega) (bl4.all (by omega)), ho4, s4⟩
   rintro ⟨ex, ds, g5⟩ ⟨rfl, Z2, hp5, bl5, ho5, s5⟩
   simp only [toEnd_nrm, bs, w4]
   exact .some (.inl ⟨rfl, N - 2 * k, by omega, _, _, _, _, _, _, 2 * k, Z2, rfl, rfl, by omega, by omega, hp5, bl5, ho5, s5⟩)
  ·intro h0
   have h0 : ¬ k < N := by have : ¬ (k : Int) < (N : Int) := by simpa using h0
                           omega
   exact .some (.inr ⟨by simp, rfl, _, _, _, _, _, _, _, rfl, Z, hp, bl.all (by omega), ho3, s3⟩)
 rintro ⟨ex, ds, g3⟩ ⟨rfl, u1, u2, u3, u4, u5, u6, u7, rfl, Z3, hp3, sZ, ho3, s3⟩
 simp only [unblk_self, exEnd_nrm, bs]
 exact .some ⟨Z3, hp3, sZ, ho3, s3⟩
def leS (x y : Str × Str) : Prop := ¬ cF y x < 0
theorem leS_def (x y : Str × Str) : leS x y ↔ Op.bytesLess y.1 x.1 = false := by
 unfold leS cF
 rw [cmpB_lt]
 simp [-bind_some]
theorem leS_tr {x y z : Str × Str} (h : leS x y) (k : leS y z) : leS x z := by
 rw [leS_def] at *
 cases hh : Op.bytesLess z.1 x.1
 ·rfl
 ·by_cases he : y.1 = x.1
  ·rw [he, hh] at k; cases k
  ·have := bL_tr hh (bL_tot h he)
   rw [this] at k; cases k
theorem leS_od : SOrd cF leS (fun _ _ => True) where
 tr := fun x y z => leS_tr
 lt := fun x y _ h => by
  unfold leS
  intro h2
  unfold cF at h h2
  rw [cmpB_lt] at h h2
  have := bL_tr h h2
  rw [bL_irr] at this
  cases this
 ge := fun x y _ h => h
theorem leS_anti {x y : Str × Str} (h : leS x y) (k : leS y x) : x.1 = y.1 := by
 rw [leS_def] at h k
 apply Classical.byContradiction
 intro hn
 have := bL_tot k hn
 rw [this] at h; cases h
theorem sorted_adj : ∀ {C : List (Str × Str)}, C.Pairwise leS → (adjB C = false ↔ (C.map Prod.fst).Nodup)
 | [], _ => by simp [-bind_some, adjB]
 | [x], _ => by simp [-bind_some, adjB]
 | x :: y :: r, h => by
  have ih := sorted_adj (C := y :: r) (List.pairwise_cons.1 h).2
  have hx := (List.pairwise_cons.1 h).1
  have hy := (List.pairwise_cons.1 (List.pairwise_cons.1 h).2).1
  rw [List.map_cons, List.nodup_cons]
  unfold adjB
  rw [Bool.or_eq_false_iff, ih]
  constructor
  ·rintro ⟨h1, h2⟩
   refine ⟨fun hm => ?_, h2⟩
   have h1 : y.1 ≠ x.1 := by simpa using h1
   obtain ⟨z, hz, hzx⟩ := List.mem_map.1 hm
   rcases List.mem_cons.1 hz with rfl | hz
   ·exact h1 hzx
   ·have h3 : leS y x := by
      have := hy z hz
      rw [leS_def] at this ⊢
      rw [← hzx]; exact this
    exact h1 (leS_anti h3 (hx y (by simp)))
  ·rintro ⟨h1, h2⟩
   refine ⟨?_, h2⟩
   have : y.1 ≠ x.1 := fun hh => h1 (by rw [List.map_cons, hh]; simp [-bind_some])
   simpa using this
theorem sorted_uniq : ∀ {C E : List (Str × Str)}, C.Pairwise leS → E.Pairwise leS → C.Perm E → (C.map Prod.fst).Nodup → C = E
 | [], E, _, _, hp, _ => by rw [List.nil_perm.1 hp]
 | x :: C, [], _, _, hp, _ => by cases List.perm_nil.1 hp
 | x :: C, y :: E, hC, hE, hp, hn => by
  rw [List.pairwise_cons] at hC hE
  rw [List.map_cons, List.nodup_cons] at hn
  have hxy : x = y := by
   apply Classical.byContradiction
   intro hne
   have hx : x ∈ E := by
    have : x ∈ y :: E := hp.mem_iff.1 (by simp)
    rcases List.mem_cons.1 this with h | h
    ·exact absurd h hne
    ·exact h
   have hy : y ∈ C := by
    have : y ∈ x :: C := hp.mem_iff.2 (by simp)
    rcases List.mem_cons.1 this with h | h
    ·exact absurd h.symm hne
    ·exact h
   have := leS_anti (hC.1 y hy) (hE.1 x hx)
   exact hn.1 (by rw [this]; exact List.mem_map.2 ⟨y, hy, rfl⟩)
  subst hxy
  rw [sorted_uniq hC.2 hE.2 ((List.perm_cons x).1 hp) hn.2]
theorem srt_ok (l : List (Str × Str)) : (srt l).Perm l ∧ (srt l).Pairwise leS := by
 cases l with
 | nil => exact ⟨by simp [-bind_some, srt, isr], by simp [-bind_some, srt, isr]⟩
 | cons x B =>
  obtain ⟨C, q1, q2, q3⟩ := isr_ok leS_od [] [] B [x] (by simp) (fun _ _ _ _ => trivial) (List.Pairwise.imp (fun _ => trivial) (List.pairwise_of_forall (l := B) (R := fun _ _ => True) (fun _ _ => trivial)))
  have e : srt (x :: B) = C := by
   unfold srt
   have : (x :: B).length - 1 = B.length := by simp
   rw [this]
   simpa using q1
  rw [e]
  exact ⟨by simpa using q2, q3⟩
theorem sort_any {C l : List (Str × Str)} (hp : C.Perm l) (hs : C.Pairwise leS) : adjB C = adjB (srt l) ∧ (adjB C = false → C = srt l) := by
 obtain ⟨h1, h2⟩ := srt_ok l
 have hq : C.Perm (srt l) := hp.trans h1.symm
 have hn : (C.map Prod.fst).Nodup ↔ ((srt l).map Prod.fst).Nodup := (hq.map Prod.fst).nodup_iff
 have a1 := sorted_adj hs
 have a2 := sorted_adj h2
 refine ⟨?_, fun h => sorted_uniq hs h2 hq (a1.1 h)⟩
 cases hC : adjB C <;> cases hS : adjB (srt l)
 ·rfl
 ·have := a2.2 (hn.1 (a1.1 hC)); rw [this] at hS; cases hS
 ·have := a1.2 (hn.2 (a2.1 hS)); rw [this] at hC; cases hC
 ·rfl
theorem w1057 {cmp : D} (hcmp : CmpF cmp cF) {o N : Nat} (hN : N ≤ 1000000000) {g : Hp} {l : List (Str × Str)} (hl : l.length = N) (ho : g[o]? = some (.row ty109 2 (l.map fld))) :
  ∃ d g', ∃ C : List (Str × Str), R fn1057 [.msl 2 o 0 N, cmp] g = some (d, g') ∧ C.Perm l ∧ C.Pairwise leS ∧ g'[o]? = some (.row ty109 2 (C.map fld)) ∧ Same o g g' := by
 obtain ⟨⟨d, g'⟩, e, C, q1, q2, q3, q4⟩ := w1063 leS_od hcmp hN hl (List.pairwise_of_forall fun _ _ => trivial) ho
 refine ⟨mkRes [], g', C, ?_, q1, q2, q3, q4⟩
 rw [e1057]
 simp only [F1057, bs, lenm29, e]
theorem s1052w (l : List (Str × Str)) (d : D) (h : Hp) (hd : SlOf 2 fld l d) : ∃ d' h', R fn1052 [d] h = some (.tup [d', .int .i64 (sortF l).1], h') ∧ h.length ≤ h'.length ∧ (∀ q, q < h.length → h'[q]? = h[q]?) ∧ ((sortF l).1 = 0 → RdF h' (sortF l).2 d') := by
 suffices Wp (R fn1052 [d] h) (fun p => ∃ d', p.1 = .tup [d', .int .i64 (sortF l).1] ∧ h.length ≤ p.2.length ∧ (∀ q, q < h.length → p.2[q]? = h[q]?) ∧ ((sortF l).1 = 0 → RdF p.2 (sortF l).2 d')) by
  obtain ⟨⟨x, h'⟩, h1, d', rfl, h2⟩ := this
  exact ⟨d', h', h1, h2⟩
 rw [e1052]
 by_cases h32n : 32 < l.length
 ·have h32 : (32 : Int) < (l.length : Int) := by omega
  have hs : sortF l = (4, []) := by simp only [sortF, h32n, if_true]
  rw [hs]
  simp only [F1052, bs, Option.bind_assoc, lens29 hd, dBin_gtr, h32, decide_true, dIf_bool, if_true, mkRes_two]
  exact .some ⟨.nils, rfl, Nat.le_refl _, fun _ _ => rfl, fun hh => by cases hh⟩
 have h32 : ¬ (32 : Int) < (l.length : Int) := by omega
 simp only [F1052, bs, Option.bind_assoc, lens29 hd, dBin_gtr, h32, decide_false, dIf_bool, Bool.false_eq_true, if_false]
 refine l1052a l d h hd (by omega) _ _ _ _ _ (fun hv x y z w => ?_) (fun hv x y z w => ?_)
 ·simp only [unblk_self, toEnd_nrm, nth_zero, nth_succ, bs]
  obtain ⟨d1, h1, e1, hl1, hb1, hd1⟩ := u1009 l d h hd (by omega)
  simp only [e1, bs]
  have hsrt : ∃ x h2, ∃ C : List (Str × Str), R fn1057 [d1, .fn (.func fn1058) [] []] h1 = some (x, h2) ∧ h.length ≤ h2.length ∧ (∀ q, q < h.length → h2[q]? = h[q]?) ∧ C.Perm l ∧ C.Pairwise leS ∧ RdF h2 C d1 := by
   rcases hd1 with ⟨rfl, hd1⟩ | ⟨ob, hob, rfl, ho⟩
   ·obtain ⟨x, hx⟩ := s1057e d1 (.fn (.func fn1058) [] []) h1 hd1
    exact ⟨x, h1, [], hx, hl1, hb1, List.Perm.refl _, List.Pairwise.nil, .inl hd1⟩
   ·obtain ⟨x, h2, C, q1, q2, q3, q4, q5⟩ := w1057 (cmp := .fn (.func fn1058) [] []) (fun x y g => c1058 x y g) (o := ob) (N := l.length) (by omega) rfl ho
    refine ⟨x, h2, C, q1, by have := q5.1; omega, fun q hq => (q5.2 q (by omega)).trans (hb1 q hq), q2, q3, .inr ⟨ob, by rw [q2.length_eq], q4⟩⟩
  obtain ⟨u, h2, C, e2, hl2, hb2, hpC, hsC, hr⟩ := hsrt
  obtain ⟨ad, un⟩ := sort_any hpC hsC
  simp only [e2, bs]
  refine l1052b C d1 h2 hr (by rw [hpC.length_eq]; omega) _ _ _ _ (fun ha x y z => ?_) (fun ha x y z => ?_)
  ·have hs : sortF l = (0, srt l) := by simp only [sortF, h32n, if_false, hv, if_true, ← ad, ha, Bool.false_eq_true]
   rw [hs]
   simp only [unblk_self, toEnd_nrm, bs, mkRes_two]
   exact .some ⟨d1, rfl, hl2, hb2, fun _ => by rw [← un ha]; exact hr⟩
  ·have hs : sortF l = (7, []) := by simp only [sortF, h32n, if_false, hv, if_true, ← ad, ha]
   rw [hs]
   simp only [unblk_ret, toEnd_ret, exEnd_ret, nth_zero, nth_succ, bs, mkRes_two]
   exact .some ⟨.nils, rfl, hl2, hb2, fun hh => by cases hh⟩
 ·have hs : sortF l = (6, []) := by simp only [sortF, h32n, if_false, hv]; rfl
  rw [hs]
  simp only [unblk_ret, toEnd_ret, exEnd_ret, nth_zero, nth_succ, bs, mkRes_two]
  exact .some ⟨.nils, rfl, Nat.le_refl _, fun _ _ => rfl, fun hh => by cases hh⟩
theorem s1043w (e : Ev) (h : Hp) : R fn1043 [.agg (evr e)] h = some (.int .i64 (evE e), h) := s1043g e h fun p => s1052w e.fs e.fd p e.hfd
theorem s1042w (i : It) (h : Hp) : R fn1042 [.agg (itr i)] h = some (.int .i64 (itE i), h) := s1042g i h (s1043w i.e h)
structure Rw where
 k : List Str
 kd : D
 hk : SlOf 1 (fun s => [D.str s]) k kd
 hkl : k.length ≤ 1000000
 n : List Int
 nd : D
 hn : SlOf 1 inr n nd
 hnl : n.length ≤ 1000000
 er : Int
theorem drop_cons {α : Type} {l : List α} {i : Nat} {x : α} (h : l[i]? = some x) : l.drop i = x :: l.drop (i + 1) := by
 obtain ⟨hn, hh⟩ := List.getElem?_eq_some_iff.1 h
 rw [List.drop_eq_getElem_cons hn, hh]
def rwa : Rw := ⟨[], .nils, .nils _ _, by simp, [1], .sl 1 true [[.int .i64 1]], .inr ⟨true, rfl⟩, by simp, 0⟩
theorem s1011g (e : Ev) (h : Hp) : R fn1011 [.agg (evr e)] h = some (.int .i64 (if plB e = true then 0 else 2), h) := by
 rw [e1011]
 simp only [F1011, pBoxF_agg, bs, evr, fa31_0, fa31_1, fa31_2, fa31_3, ld3, dBin_lss, dBin_gtr, dBin_leq]
 by_cases g1 : e.a0 < 0
 ·have hp : plB e = false := by
    cases hh : plB e
    ·rfl
    ·simp [-bind_some, plB] at hh; omega
  simp only [g1, hp, decide_true, decide_false, gd_bool, gd_und, reduceCtorEq, Bool.true_eq_false, Bool.false_eq_true, if_true, if_false, bs, fa31_0, fa31_1, fa31_2, fa31_3, ld3, dBin_lss, dBin_gtr, dBin_leq, dPick_bool, dIf_bool, mkRes_one]
 by_cases g2 : 999 < e.a0
 ·have hp : plB e = false := by
    cases hh : plB e
    ·rfl
    ·simp [-bind_some, plB] at hh; omega
  simp only [g1, g2, hp, decide_true, decide_false, gd_bool, gd_und, reduceCtorEq, Bool.true_eq_false, Bool.false_eq_true, if_true, if_false, bs, fa31_0, fa31_1, fa31_2, fa31_3, ld3, dBin_lss, dBin_gtr, dBin_leq, dPick_bool, dIf_bool, mkRes_one]
 by_cases g3 : e.a1 < 0
 ·have hp : plB e = false := by
    cases hh : plB e
    ·rfl
    ·simp [-bind_some, plB] at hh; omega
  simp only [g1, g2, g3, hp, decide_true, decide_false, gd_bool, gd_und, reduceCtorEq, Bool.true_eq_false, Bool.false_eq_true, if_true, if_false, bs, fa31_0, fa31_1, fa31_2, fa31_3, ld3, dBin_lss, dBin_gtr, dBin_leq, dPick_bool, dIf_bool, mkRes_one]
 by_cases g4 : 2147483646 < e.a1
 ·have hp : plB e = false := by
    cases hh : plB e
    ·rfl
    ·simp [-bind_some, plB] at hh; omega
  simp only [g1, g2, g3, g4, hp, decide_true, decide_false, gd_bool, gd_und, reduceCtorEq, Bool.true_eq_false, Bool.false_eq_true, if_true, if_false, bs, fa31_0, fa31_1, fa31_2, fa31_3, ld3, dBin_lss, dBin_gtr, dBin_leq, dPick_bool, dIf_bool, mkRes_one]
 by_cases g5 : e.a2 < 0
 ·have hp : plB e = false := by
    cases hh : plB e
    ·rfl
    ·simp [-bind_some, plB] at hh; omega
  simp only [g1, g2, g3, g4, g5, hp, decide_true, decide_false, gd_bool, gd_und, reduceCtorEq, Bool.true_eq_false, Bool.false_eq_true, if_true, if_false, bs, fa31_0, fa31_1, fa31_2, fa31_3, ld3, dBin_lss, dBin_gtr, dBin_leq, dPick_bool, dIf_bool, mkRes_one]
 by_cases g6 : e.a3 ≤ e.a2
 ·have hp : plB e = false := by
    cases hh : plB e
    ·rfl
    ·simp [-bind_some, plB] at hh; omega
  simp only [g1, g2, g3, g4, g5, g6, hp, decide_true, decide_false, gd_bool, gd_und, reduceCtorEq, Bool.true_eq_false, Bool.false_eq_true, if_true, if_false, bs, fa31_0, fa31_1, fa31_2, fa31_3, ld3, dBin_lss, dBin_gtr, dBin_leq, dPick_bool, dIf_bool, mkRes_one]
 by_cases g7 : 60000 < e.a3
 ·have hp : plB e = false := by
    cases hh : plB e
    ·rfl
    ·simp [-bind_some, plB] at hh; omega
  simp only [g1, g2, g3, g4, g5, g6, g7, hp, decide_true, decide_false, gd_bool, gd_und, reduceCtorEq, Bool.true_eq_false, Bool.false_eq_true, if_true, if_false, bs, fa31_0, fa31_1, fa31_2, fa31_3, ld3, dBin_lss, dBin_gtr, dBin_leq, dPick_bool, dIf_bool, mkRes_one]
 have hp : plB e = true := by simp [-bind_some, plB]; omega
 simp only [g1, g2, g3, g4, g5, g6, g7, hp, decide_true, decide_false, gd_bool, gd_und, reduceCtorEq, Bool.true_eq_false, Bool.false_eq_true, if_true, if_false, bs, fa31_0, fa31_1, fa31_2, fa31_3, ld3, dBin_lss, dBin_gtr, dBin_leq, dPick_bool, dIf_bool, mkRes_one]
theorem s1014g (w : Int) (h : Hp) : R fn1014 [.int .i64 w] h = some (.bool (decide (¬ (w < 1 ∨ Int.tmod 5040 w ≠ 0))), h) := by
 rw [e1014]
 simp only [F1014, bs, dBin_geq, dBin_leq]
 by_cases h1 : w < 1
 ·have g1 : ¬ w ≥ 1 := by omega
  simp only [h1, g1, decide_false, gd_bool, reduceCtorEq, Bool.false_eq_true, if_false, bs, dPick_bool, true_or, not_true, mkRes_one]
 ·have g1 : w ≥ 1 := by omega
  have g0 : ¬ w = 0 := by omega
  by_cases h2 : w ≤ 5040
  ·by_cases h3 : Int.tmod 5040 w = 0
   ·simp only [h1, g1, h2, g0, h3, decide_true, gd_bool, if_true, if_false, bs, dPick_bool, dBin_rem, dBin_leq, dBin_eql, ne_eq, not_true, or_self, not_false_eq_true, mkRes_one]
   ·simp only [h1, g1, h2, g0, h3, decide_true, decide_false, gd_bool, if_true, if_false, bs, dPick_bool, dBin_rem, dBin_leq, dBin_eql, ne_eq, not_false_eq_true, or_true, not_true, mkRes_one]
  ·have h3 : ¬ Int.tmod 5040 w = 0 := by
     rw [Int.tmod_eq_emod_of_nonneg (by omega), Int.emod_eq_of_lt (by omega) (by omega)]; omega
   simp only [h1, g1, h2, h3, decide_true, decide_false, gd_bool, reduceCtorEq, Bool.false_eq_true, if_true, if_false, bs, dBin_leq, dPick_bool, ne_eq, not_false_eq_true, or_true, not_true, mkRes_one]
theorem s1012g (e : Ev) (m : Int) (h : Hp) : R fn1012 [.agg (evr e), .int .i64 m] h = some (.int .i64 (linesE e m), h) := by
 suffices Wp (R fn1012 [.agg (evr e), .int .i64 m] h) (fun p => p = (.int .i64 (linesE e m), h)) by
  obtain ⟨p, h1, rfl⟩ := this
  exact h1
 rw [e1012]
 simp only [F1012, pBoxF_agg, bs, Option.bind_assoc, evr, fa31_4, fa31_2, ld28, ld3, lens28 e.hld, dBin_eql, dBin_gtr]
 by_cases g0 : e.ls.length = 0
 ·have g0' : (e.ls.length : Int) = 0 := by omega
  simp only [g0', decide_true, dIf_bool, if_true, mkRes_one]
  exact .some (by simp [-bind_some, linesE, g0])
 by_cases g4 : 40 < e.ls.length
 ·have g0' : ¬ (e.ls.length : Int) = 0 := by omega
  have g4' : (40 : Int) < (e.ls.length : Int) := by omega
  simp only [g0', g4', decide_true, decide_false, Bool.false_eq_true, if_false, dIf_bool, if_true, mkRes_one]
  exact .some (by simp [-bind_some, linesE, g0, g4])
 have g0' : ¬ (e.ls.length : Int) = 0 := by omega
 have g4' : ¬ (40 : Int) < (e.ls.length : Int) := by omega
 have hE : linesE e m = lnE e.a3 m e.a2 e.ls := by simp [-bind_some, linesE, g0, g4]
 rw [hE]
 generalize hV : lnE e.a3 m e.a2 e.ls = V
 simp only [g0', g4', decide_false, Bool.false_eq_true, if_false, dIf_bool]
 refine Wp.loop (fun k ds g => g = h ∧ ∃ a b c d f, ∃ at_ : Int, ∃ i : Nat, ds = [a, .int .i64 at_, .int .i64 (i : Int), b, c, d, f] ∧ k + i = e.ls.length ∧ lnE e.a3 m at_ (e.ls.drop i) = V)
   (fun x => x.2.2 = h ∧ ((x.1 = .ext 0 ∧ V = 0) ∨ (x.1 = .ret ∧ nth 0 x.2.1 = .int .i64 V))) e.ls.length ⟨rfl, _, _, _, _, _, _, 0, rfl, rfl, hV⟩ ?_ ?_
 ·rintro k ds g ⟨rfl, a, b, c, d, f, at_, i, rfl, hk, hch⟩
  simp only [F1012_L0, nth_zero, nth_succ, bs, Option.bind_assoc, fa31_4, ld28, lens28 e.hld, dBin_lss]
  refine Wp.dif ?_ ?_
  ·intro h0
   have h0 : i < e.ls.length := by have : (i : Int) < e.ls.length := by simpa using h0
                                   omega
   have hg : e.ls[i]? = some e.ls[i] := List.getElem?_eq_getElem h0
   have hw : IntKind.wrap .i64 ((i : Int) + 1) = ((i + 1 : Nat) : Int) := by rw [wrap_i64 (by omega) (by omega)]; omega
   have hw4 : IntKind.wrap .i64 ((e.ls.length : Int) - 1) = (e.ls.length : Int) - 1 := wrap_i64 (by omega) (by omega)
   rw [List.drop_eq_getElem_cons h0] at hch
   generalize e.ls[i] = x at hg hch
   have hix : dIndexAddr tab ty28 e.ld (.int .i64 (i : Int)) = some (.fptr (linr x)) := by rw [ixs28 e.hld]; simp [-bind_some, hg]
   have hr : e.ls.drop (i + 1) = [] ↔ (i : Int) = (e.ls.length : Int) - 1 := by
    rw [List.drop_eq_nil_iff]; omega
   have l0 : dLoad tab g ty78 (.fptr (linr x)) = some (.agg (linr x)) := id rfl
   have l1 : boxN 3 (.agg (linr x)) = some (.fptr (linr x)) := boxN_agg 3 _ rfl
   have f0 : dFieldAddr tab ty78 0 (.fptr (linr x)) = some (.fptr (linr x)) := id rfl
   have f1 : dFieldAddr tab ty78 1 (.fptr (linr x)) = some (.fptr [.int .i64 x.len, .str x.txt]) := id rfl
   have f2 : dFieldAddr tab ty78 2 (.fptr (linr x)) = some (.fptr [.str x.txt]) := id rfl
   have k0 : dLoad tab g ty3 (.fptr (linr x)) = some (.int .i64 x.off) := id rfl
   have k1 : dLoad tab g ty3 (.fptr [.int .i64 x.len, .str x.txt]) = some (.int .i64 x.len) := id rfl
   have k2 : dLoad tab g ty9 (.fptr [.str x.txt]) = some (.str x.txt) := id rfl
   unfold lnE at hch
   simp only [hix, l0, l1, f0, f1, f2, k0, bs, dBin_neq]
   by_cases c1 : x.off = at_
   case neg =>
    rw [if_neg (fun hh => c1 hh.1)] at hch
    simp only [c1, ne_eq, not_false_eq_true, decide_true, gd_bool, gd_und, reduceCtorEq, Bool.true_eq_false, if_false, bs, dPick_bool, if_true, dIf_bool]
    exact .some (.inr ⟨by simp, rfl, .inr ⟨rfl, by rw [← hch]; rfl⟩⟩)
   by_cases c2 : x.len < 1
   ·rw [if_neg (fun hh => hh.2.1 c2)] at hch
    simp only [c1, c2, ne_eq, not_true, decide_true, decide_false, gd_bool, gd_und, reduceCtorEq, Bool.true_eq_false, Bool.false_eq_true, if_false, bs, k1, dBin_lss, dPick_bool, if_true, dIf_bool]
    exact .some (.inr ⟨by simp, rfl, .inr ⟨rfl, by rw [← hch]; rfl⟩⟩)
   generalize hT : IntKind.wrap .i64 (e.a3 - at_) = T at hch
   by_cases c3 : T < x.len
   ·rw [if_neg (fun hh => hh.2.2.1 c3)] at hch
    simp only [c1, c2, c3, ne_eq, not_true, decide_true, decide_false, gd_bool, gd_und, reduceCtorEq, Bool.true_eq_false, Bool.false_eq_true, if_false, bs, k1, fa31_3, ld3, dBin_sub, hT, dBin_lss, dBin_gtr, dPick_bool, if_true, dIf_bool]
    exact .some (.inr ⟨by simp, rfl, .inr ⟨rfl, by rw [← hch]; rfl⟩⟩)
   by_cases c4 : e.ls.drop (i + 1) = [] ∧ x.len < T
   ·rw [if_neg (fun hh => hh.2.2.2 c4)] at hch
    have c5 : (i : Int) = (e.ls.length : Int) - 1 := hr.1 c4.1
    have c6 : ¬ x.len = T := by have := c4.2; omega
    have d5 : decide ((i : Int) = (e.ls.length : Int) - 1) = true := decide_eq_true c5
    simp only [c1, c2, c3, d5, c6, ne_eq, not_true, not_false_eq_true, decide_true, decide_false, gd_bool, gd_und, reduceCtorEq, Bool.true_eq_false, Bool.false_eq_true, if_false, bs, k1, fa31_3, fa31_4, ld28, lens28 e.hld, ld3, dBin_sub, hw4, hT, dBin_lss, dBin_gtr, dBin_eql, dBin_neq, dPick_bool, if_true, dIf_bool]
    exact .some (.inr ⟨by simp, rfl, .inr ⟨rfl, by rw [← hch]; rfl⟩⟩)
   rw [if_pos ⟨c1, c2, c3, c4⟩] at hch
   have c6 : (i : Int) = (e.ls.length : Int) - 1 → x.len = T := fun c5 => by
    have : ¬ x.len < T := fun hh => c4 ⟨hr.2 c5, hh⟩
    omega
   by_cases c7 : m < x.txt.length
   ·rw [if_pos c7] at hch
    have c7' : (x.txt.length : Int) > m := c7
    by_cases c5 : (i : Int) = (e.ls.length : Int) - 1
    ·replace c6 := c6 c5
     have d5 : decide ((i : Int) = (e.ls.length : Int) - 1) = true := decide_eq_true c5
     have d6 : decide (¬ x.len = T) = false := decide_eq_false (fun hh => hh c6)
     simp only [c1, c2, c3, d5, d6, c7', ne_eq, not_true, not_false_eq_true, decide_true, decide_false, gd_bool, gd_und, reduceCtorEq, Bool.true_eq_false, Bool.false_eq_true, if_false, bs, k1, k2, fa31_3, fa31_4, ld28, lens28 e.hld, ld3, dBin_sub, hw4, hT, dBin_lss, dBin_gtr, dBin_eql, dBin_neq, dPick_bool, if_true, dIf_bool, len9, dBin_add, hw, Int.lt_irrefl]
     exact .some (.inr ⟨by simp, rfl, .inr ⟨rfl, by rw [← hch]; rfl⟩⟩)
    ·clear c6
     simp only [c1, c2, c3, c5, c7', ne_eq, not_true, not_false_eq_true, decide_true, decide_false, gd_bool, gd_und, reduceCtorEq, Bool.true_eq_false, Bool.false_eq_true, if_false, bs, k1, k2, fa31_3, fa31_4, ld28, lens28 e.hld, ld3, dBin_sub, hw4, hT, dBin_lss, dBin_gtr, dBin_eql, dBin_neq, dPick_bool, if_true, dIf_bool, len9, dBin_add, hw, Int.lt_irrefl]
     exact .some (.inr ⟨by simp, rfl, .inr ⟨rfl, by rw [← hch]; rfl⟩⟩)
   ·rw [if_neg c7] at hch
    have c7' : ¬ (x.txt.length : Int) > m := c7
    by_cases c5 : (i : Int) = (e.ls.length : Int) - 1
    ·replace c6 := c6 c5
     have d5 : decide ((i : Int) = (e.ls.length : Int) - 1) = true := decide_eq_true c5
     have d6 : decide (¬ x.len = T) = false := decide_eq_false (fun hh => hh c6)
     simp only [c1, c2, c3, d5, d6, c7', ne_eq, not_true, not_false_eq_true, decide_true, decide_false, gd_bool, gd_und, reduceCtorEq, Bool.true_eq_false, Bool.false_eq_true, if_false, bs, k1, k2, fa31_3, fa31_4, ld28, lens28 e.hld, ld3, dBin_sub, hw4, hT, dBin_lss, dBin_gtr, dBin_eql, dBin_neq, dPick_bool, if_true, dIf_bool, len9, dBin_add, hw, Int.lt_irrefl]
     exact .some (.inl ⟨rfl, k - 1, by omega, rfl, _, _, _, _, _, _, i + 1, rfl, by omega, hch⟩)
    ·clear c6
     simp only [c1, c2, c3, c5, c7', ne_eq, not_true, not_false_eq_true, decide_true, decide_false, gd_bool, gd_und, reduceCtorEq, Bool.true_eq_false, Bool.false_eq_true, if_false, bs, k1, k2, fa31_3, fa31_4, ld28, lens28 e.hld, ld3, dBin_sub, hw4, hT, dBin_lss, dBin_gtr, dBin_eql, dBin_neq, dPick_bool, if_true, dIf_bool, len9, dBin_add, hw, Int.lt_irrefl]
     exact .some (.inl ⟨rfl, k - 1, by omega, rfl, _, _, _, _, _, _, i + 1, rfl, by omega, hch⟩)
  ·intro h0
   have h0 : e.ls.length ≤ i := by have : ¬ (i : Int) < e.ls.length := by simpa using h0
                                   omega
   rw [List.drop_of_length_le h0] at hch
   exact .some (.inr ⟨by simp, rfl, .inl ⟨rfl, hch.symm⟩⟩)
 ·rintro ⟨ex, ds, g⟩ ⟨h2, h3⟩
  simp only at h2 h3
  subst h2
  rcases h3 with ⟨rfl, rfl⟩ | ⟨rfl, hv⟩
  ·simp only [unblk_self, toEnd_nrm, bs, mkRes_one]
   exact .some rfl
  ·simp only [unblk_ret, toEnd_ret, exEnd_ret, nth_zero, bs, hv, mkRes_one]
   exact .some rfl
def ltS (x y : Str × Str) : Prop := Op.bytesLess x.1 y.1 = true
theorem ltS_le {x y : Str × Str} (h : ltS x y) : leS x y := by
 rw [leS_def]
 cases hh : Op.bytesLess y.1 x.1
 ·rfl
 ·have := bL_tr h hh
  rw [bL_irr] at this; cases this
theorem lt_adj {C : List (Str × Str)} (h : C.Pairwise ltS) : adjB C = false := by
 rw [sorted_adj (h.imp ltS_le), List.Nodup, List.pairwise_map]
 exact h.imp fun {a b} hab he => by
  have : Op.bytesLess a.1 b.1 = true := hab
  rw [he, bL_irr] at this; cases this
theorem sort_lt {l C : List (Str × Str)} (hp : C.Perm l) (hs : C.Pairwise ltS) (h32 : l.length ≤ 32) (hn : l.all (fun p => fnameOK p.1) = true) : sortF l = (0, C) := by
 obtain ⟨a1, a2⟩ := sort_any hp (hs.imp ltS_le)
 have h := lt_adj hs
 have h32n : ¬ 32 < l.length := by omega
 rw [a2 h]
 rw [h] at a1
 simp only [sortF, h32n, if_false, hn, if_true, ← a1, Bool.false_eq_true]
theorem sort_two {l : List (Str × Str)} (h32 : l.length ≤ 32) (hn : l.all (fun p => fnameOK p.1) = true) (hd : ¬ (l.map Prod.fst).Nodup) : sortF l = (7, []) := by
 obtain ⟨h1, h2⟩ := srt_ok l
 have : adjB (srt l) = true := by
  cases hq : adjB (srt l)
  ·rw [sorted_adj h2, (h1.map Prod.fst).nodup_iff] at hq
   exact absurd hq hd
  ·rfl
 have h32n : ¬ 32 < l.length := by omega
 simp only [sortF, h32n, if_false, hn, if_true, this]
theorem l1015n (l : List (Str × Str)) (d : D) (h : Hp) (hd : SlOf 2 fld l d) (hl : l.length ≤ 32) (hb : ∀ p ∈ l, p.1.length ≤ 9223372036854775807) {β : Type} {K : Out → Option β} {Q : β → Prop} (a b x1 x2 : D)
  (k1 : l.all (fun p => fnameOK p.1) = true → ∀ x y z, Wp (K (.ext 0, [a, b, x, y, z], h)) Q) (k2 : ¬ l.all (fun p => fnameOK p.1) = true → ∀ x y z, Wp (K (.ret, [.nils, .int .i64 6, x, y, z], h)) Q) :
  Wp ((loopW (F1015_L0 d) [a, b, .int .i64 0, x1, x2] h).bind K) Q := by
 generalize hV : l.all (fun p => fnameOK p.1) = V at k1 k2
 refine Wp.loop (fun k ds g => g = h ∧ ∃ e f, ∃ i : Nat, ds = [a, b, .int .i64 i, e, f] ∧ k + i = l.length ∧ (l.drop i).all (fun p => fnameOK p.1) = V)
   (fun x => x.2.2 = h ∧ ((x.1 = .ext 0 ∧ V = true ∧ ∃ p q r, x.2.1 = [a, b, p, q, r]) ∨ (x.1 = .ret ∧ V = false ∧ ∃ p q r, x.2.1 = [.nils, .int .i64 6, p, q, r]))) l.length ⟨rfl, _, _, 0, rfl, rfl, hV⟩ ?_ ?_
 ·rintro k ds g ⟨rfl, e, f, i, rfl, hk, hch⟩
  simp only [F1015_L0, nth_zero, nth_succ, bs, Option.bind_assoc, lens29 hd, dBin_lss]
  refine Wp.dif ?_ ?_
  ·intro h0
   have h0 : i < l.length := by have : (i : Int) < l.length := by simpa using h0
                                omega
   have hg : l[i]? = some l[i] := List.getElem?_eq_getElem h0
   have hw : IntKind.wrap .i64 ((i : Int) + 1) = ((i + 1 : Nat) : Int) := by
    rw [wrap_i64 (by omega) (by omega)]; omega
   have hbx := hb l[i] (List.getElem_mem _)
   rw [List.drop_eq_getElem_cons h0] at hch
   generalize l[i] = x at hg hch hbx
   simp only [ixs29 hd, Int.natCast_nonneg, if_true, Int.toNat_natCast, hg, Option.map_some, bs, fld_f0 x, fld_l0, s1018 x.1 g hbx, dUn_not]
   simp only [List.all_cons] at hch
   cases hf : fnameOK x.1
   ·rw [hf] at hch
    simp only [Bool.not_false, dIf_bool, if_true]
    exact .some (.inr ⟨by simp, rfl, .inr ⟨rfl, hch.symm, _, _, _, rfl⟩⟩)
   ·rw [hf] at hch
    simp only [Bool.not_true, dIf_bool, Bool.false_eq_true, if_false, dBin_add, bs, hw]
    exact .some (.inl ⟨rfl, k - 1, by omega, rfl, _, _, i + 1, rfl, by omega, hch⟩)
  ·intro h0
   have h0 : l.length ≤ i := by have : ¬ (i : Int) < l.length := by simpa using h0
                                omega
   rw [List.drop_of_length_le h0] at hch
   exact .some (.inr ⟨by simp, rfl, .inl ⟨rfl, hch.symm, _, _, _, rfl⟩⟩)
 ·rintro ⟨x, ds, g⟩ ⟨h2, h3⟩
  simp only at h2 h3
  subst h2
  rcases h3 with ⟨rfl, hv, p, q, r, rfl⟩ | ⟨rfl, hv, p, q, r, rfl⟩
  ·exact k1 hv _ _ _
  ·exact k2 (by rw [hv]; simp [-bind_some]) _ _ _
theorem l1015s (l : List (Str × Str)) (d : D) (hd : SlOf 2 fld l d) (ds0 : List D) (i : Nat) (x : Str × Str) (hx : l[i]? = some x) (hi1 : nth 3 ds0 = .int .i64 (i : Int)) (O : List (Str × Str)) (hOl : O.length ≤ 1000) (ob : Nat) (g : Hp) (hg : g[ob]? = some (.row ty109 2 ((O ++ [x]).map fld))) (b : D) {β : Type} {f : Out → Option β} {Q : β → Prop}
  (K : ∀ (k : Nat) (z : Str × Str) (g' : Hp) (v : D), k ≤ O.length → g'[ob]? = some (.row ty109 2 ((O.take k ++ z :: O.drop k).map fld)) → Same ob g g' → (k = 0 ∨ ∃ y, O[k - 1]? = some y ∧ ¬ ltS x y) → (∀ j y, k ≤ j → O[j]? = some y → ltS x y) → Wp (f (.ext 4, [.int .i64 (k : Int), v], g')) Q) :
  Wp ((loopW (F1015_L2 d ds0 (.msl 2 ob 0 (O.length + 1))) [.int .i64 (O.length : Int), b] g).bind f) Q := by
 refine Wp.loop (fun n ds g' => ∃ c z, ds = [.int .i64 (n : Int), c] ∧ n ≤ O.length ∧ g'[ob]? = some (.row ty109 2 ((O.take n ++ z :: O.drop n).map fld)) ∧ Same ob g g' ∧ ∀ j y, n ≤ j → O[j]? = some y → ltS x y)
  (fun r => r.1 = .ext 4 ∧ ∃ (k : Nat) (z : Str × Str) (v : D), r.2.1 = [.int .i64 (k : Int), v] ∧ k ≤ O.length ∧ r.2.2[ob]? = some (.row ty109 2 ((O.take k ++ z :: O.drop k).map fld)) ∧ Same ob g r.2.2 ∧ (k = 0 ∨ ∃ y, O[k - 1]? = some y ∧ ¬ ltS x y) ∧ (∀ j y, k ≤ j → O[j]? = some y → ltS x y)) O.length
  ⟨_, x, rfl, Nat.le_refl _, by rw [List.take_length, List.drop_length]; exact hg, .refl _ _, fun j y hj hy => by have := (List.getElem?_eq_some_iff.1 hy).1; omega⟩ ?_ ?_
 ·rintro n ds g' ⟨c, z, rfl, hn, hg', sm, hall⟩
  have hix : dIndexAddr tab ty29 d (.int .i64 (i : Int)) = some (.fptr (fld x)) := by rw [ixs29 hd]; simp [-bind_some, hx]
  simp only [F1015_L2, nth_zero, nth_succ, bs, Option.bind_assoc, hi1, dBin_gtr]
  by_cases h0 : n = 0
  ·subst h0
   have d0 : decide (((0 : Nat) : Int) > 0) = false := decide_eq_false (by omega)
   simp only [d0, gd_bool, gd_und, reduceCtorEq, if_false, if_true, bs, dPick_bool, Bool.false_eq_true, dIf_bool]
   exact .some (.inr ⟨by simp, rfl, 0, z, _, rfl, by omega, hg', sm, .inl rfl, hall⟩)
  ·obtain ⟨m, rfl⟩ : ∃ m, n = m + 1 := ⟨n - 1, by omega⟩
   have d0 : decide (((m + 1 : Nat) : Int) > 0) = true := decide_eq_true (by omega)
   have hw : IntKind.wrap .i64 (((m + 1 : Nat) : Int) - 1) = (m : Int) := by rw [wrap_i64 (by omega) (by omega)]; omega
   obtain ⟨y, hy⟩ : ∃ y, O[m]? = some y := ⟨_, List.getElem?_eq_getElem (by omega)⟩
   have htl : (O.take (m + 1)).length = m + 1 := by simp; omega
   have hym : ((O.take (m + 1) ++ z :: O.drop (m + 1)).map fld)[m]? = some (fld y) := by
    rw [List.getElem?_map, List.getElem?_append_left (by omega), List.getElem?_take, if_pos (by omega), hy]; rfl
   have hzm : ((O.take (m + 1) ++ z :: O.drop (m + 1)).map fld)[m + 1]? = some (fld z) := by
    rw [List.getElem?_map, get_midn _ _ z _ htl]; rfl
   have iy : dIndexAddr tab ty29 (.msl 2 ob 0 (O.length + 1)) (.int .i64 (m : Int)) = some (.ptr ob m 0) := by rw [ixm29, if_pos (by omega)]; simp [-bind_some]
   have iz : dIndexAddr tab ty29 (.msl 2 ob 0 (O.length + 1)) (.int .i64 ((m + 1 : Nat) : Int)) = some (.ptr ob (m + 1) 0) := by rw [ixm29, if_pos (by omega)]; simp [-bind_some]
   have ly : dLoad tab g' ty9 (.ptr ob m 0) = some (.str y.1) := by rw [ldp9, row_of hg', hym]; rfl
   have lyr : dLoad tab g' ty109 (.ptr ob m 0) = some (.agg (fld y)) := by rw [ldp109, row_of hg', hym]; rfl
   simp only [d0, gd_bool, if_true, bs, dBin_sub, hw, iy, fap109_0, ly, hix, fld_f0 x, fld_l0, sgtr, dPick_bool]
   by_cases hlt : ltS x y
   ·have hb : (!(Op.bytesLess y.1 x.1 || y.1 == x.1)) = true := by
      have h1 : Op.bytesLess x.1 y.1 = true := hlt
      have h2 : Op.bytesLess y.1 x.1 = false := (leS_def x y).1 (ltS_le hlt)
      have h3 : (y.1 == x.1) = false := by
       cases hq : (y.1 == x.1)
       ·rfl
       ·rw [eq_of_beq hq, bL_irr] at h1; cases h1
      rw [h2, h3]; rfl
    simp only [hb, dIf_bool, if_true, dBin_sub, hw, iy, lyr, iz, bs, Option.bind_assoc]
    refine wst109 (off := 0) hg' hzm (by rfl) (by exact Nat.le_refl _) (by rfl) fun g2 p2 s2 => ?_
    have hset : ((O.take (m + 1) ++ z :: O.drop (m + 1)).map fld).set (m + 1) (spl (fld z) 0 (cells1 (.agg (fld y)))) = (O.take m ++ y :: O.drop m).map fld := by
     rw [show spl (fld z) 0 (cells1 (.agg (fld y))) = fld y from rfl, ← List.map_set, set_mid _ _ z y _ htl, drop_cons hy, List.take_add_one, hy]
     simp [-bind_some]
    rw [hset] at p2
    try simp only [bs, dBin_sub, hw]
    exact .some (.inl ⟨rfl, m, by omega, _, y, rfl, by omega, p2, sm.trans s2, fun j y' hj hy' => by
     by_cases hjm : j = m
     ·subst hjm; rw [hy] at hy'; injection hy' with hy'; subst hy'; exact hlt
     ·exact hall j y' (by omega) hy'⟩)
   ·have hb : (!(Op.bytesLess y.1 x.1 || y.1 == x.1)) = false := by
      by_cases h3 : y.1 = x.1
      ·have : (y.1 == x.1) = true := by simpa using h3
       rw [this]; simp [-bind_some]
      ·have h1 : Op.bytesLess x.1 y.1 = false := by
         cases hq : Op.bytesLess x.1 y.1
         ·rfl
         ·exact absurd hq hlt
       have h2 := bL_tot h1 (fun hh => h3 hh.symm)
       rw [h2]; rfl
    simp only [hb, dIf_bool, Bool.false_eq_true, if_false]
    exact .some (.inr ⟨by simp, rfl, m + 1, z, _, rfl, hn, hg', sm, .inr ⟨y, by simpa using hy, hlt⟩, hall⟩)
 ·rintro ⟨ex, ds, g'⟩ ⟨rfl, k, z, v, rfl, k1, k2, k3, k4, k5⟩
  exact K k z g' v k1 k2 k3 k4 k5
theorem ltS_tr {x y z : Str × Str} (h : ltS x y) (k : ltS y z) : ltS x z := bL_tr h k
theorem ins_lt {O : List (Str × Str)} {y : Str × Str} {k : Nat} (hs : O.Pairwise ltS) (h1 : k = 0 ∨ ∃ z, O[k - 1]? = some z ∧ ltS z y) (h2 : ∀ j z, k ≤ j → O[j]? = some z → ltS y z) : (O.take k ++ y :: O.drop k).Pairwise ltS := by
 rw [List.pairwise_append]
 have hs' := hs
 rw [← List.take_append_drop k O, List.pairwise_append] at hs'
 have q1 : ∀ a ∈ O.take k, ltS a y := by
  intro a ha
  rcases h1 with rfl | ⟨z, hz, hzy⟩
  ·simp at ha
  ·obtain ⟨j, hj⟩ := List.getElem?_of_mem ha
   rw [List.getElem?_take] at hj
   split at hj
   ·rename_i hjk
    by_cases hjz : j = k - 1
    ·subst hjz; rw [hz] at hj; injection hj with hj; subst hj; exact hzy
    ·obtain ⟨n1, e1⟩ := List.getElem?_eq_some_iff.1 hj
     obtain ⟨n2, e2⟩ := List.getElem?_eq_some_iff.1 hz
     have := List.pairwise_iff_getElem.1 hs j (k - 1) n1 n2 (by omega)
     rw [e1, e2] at this
     exact ltS_tr this hzy
   ·cases hj
 have q2 : ∀ b ∈ O.drop k, ltS y b := by
  intro b hb
  obtain ⟨j, hj⟩ := List.getElem?_of_mem hb
  rw [List.getElem?_drop] at hj
  exact h2 (k + j) b (by omega) hj
 refine ⟨hs'.1, List.pairwise_cons.2 ⟨q2, hs'.2.1⟩, fun a ha b hb => ?_⟩
 rcases List.mem_cons.1 hb with rfl | hb
 ·exact q1 a ha
 ·exact hs'.2.2 a ha b hb
theorem dup_not {l : List (Str × Str)} {i : Nat} {y z : Str × Str} (hy : l[i]? = some y) (hz : z ∈ l.take i) (he : z.1 = y.1) : ¬ (l.map Prod.fst).Nodup := by
 intro hn
 have e : l = l.take i ++ y :: l.drop (i + 1) := by
  rw [← drop_cons hy, List.take_append_drop]
 rw [e, List.map_append, List.map_cons, List.nodup_append] at hn
 exact hn.2.2 z.1 (List.mem_map.2 ⟨z, hz, rfl⟩) y.1 (by simp) he
theorem s1015g (l : List (Str × Str)) (d : D) (h : Hp) (hd : SlOf 2 fld l d) (hb : ∀ p ∈ l, p.1.length ≤ 9223372036854775807) : ∃ d', R fn1015 [d] h = some (.tup [d', .int .i64 (sortF l).1], h) ∧ ((sortF l).1 = 0 → SlOf 2 fld (sortF l).2 d') := by
 suffices Wp (R fn1015 [d] h) (fun p => p.2 = h ∧ ∃ d', p.1 = .tup [d', .int .i64 (sortF l).1] ∧ ((sortF l).1 = 0 → SlOf 2 fld (sortF l).2 d')) by
  obtain ⟨⟨x, h'⟩, h1, rfl, d', rfl, h2⟩ := this
  exact ⟨d', h1, h2⟩
 have sc : ∀ (g : Hp) (v : Int), h.length ≤ g.length → (∀ q, q < h.length → g[q]? = h[q]?) → scope h g (.tup [.nils, .int .i64 v]) = some (.tup [.nils, .int .i64 v], h) := fun g v h1 h2 => scope_eq (by simp) (.tup _ fun x hx => by
  simp only [List.mem_cons, List.not_mem_nil, or_false] at hx
  rcases hx with rfl | rfl
  ·exact .nils
  ·exact .int _ _) h1 h2
 rw [e1015]
 by_cases h32n : 32 < l.length
 ·have h32 : decide ((l.length : Int) > 32) = true := decide_eq_true (by omega)
  have hs : sortF l = (4, []) := by simp only [sortF, h32n, if_true]
  rw [hs]
  simp only [F1015, bs, Option.bind_assoc, lens29 hd, dBin_gtr, h32, dIf_bool, if_true, mkRes_two, sc h 4 (Nat.le_refl _) (fun _ _ => rfl)]
  exact .some ⟨rfl, .nils, rfl, fun hh => by cases hh⟩
 have h32 : decide ((l.length : Int) > 32) = false := decide_eq_false (by omega)
 simp only [F1015, bs, Option.bind_assoc, lens29 hd, dBin_gtr, h32, dIf_bool, Bool.false_eq_true, if_false]
 refine l1015n l d h hd (by omega) hb _ _ _ _ (fun hv x y z => ?_) (fun hv x y z => ?_)
 case refine_2 =>
  have hs : sortF l = (6, []) := by simp only [sortF, h32n, if_false, hv]; rfl
  rw [hs]
  simp only [unblk_ret, toEnd_ret, exEnd_ret, nth_zero, nth_succ, bs, mkRes_two, sc h 6 (Nat.le_refl _) (fun _ _ => rfl)]
  exact .some ⟨rfl, .nils, rfl, fun hh => by cases hh⟩
 simp only [unblk_self, toEnd_nrm, nth_zero, nth_succ, bs, Option.bind_assoc]
 clear x y z
 refine Wp.loop (fun k ds g => h.length ≤ g.length ∧ (∀ q, q < h.length → g[q]? = h[q]?) ∧ ∃ a b x c e f u, ∃ (i : Nat) (O : List (Str × Str)), ds = [a, b, x, .int .i64 (i : Int), c, e, f, u] ∧ k + i = l.length ∧ Own g h.length ty109 2 (O.map fld) x ∧ O.Perm (l.take i) ∧ O.Pairwise ltS)
   (fun r => h.length ≤ r.2.2.length ∧ (∀ q, q < h.length → r.2.2[q]? = h[q]?) ∧ ((r.1 = .ext 2 ∧ ∃ O : List (Str × Str), Own r.2.2 h.length ty109 2 (O.map fld) (nth 2 r.2.1) ∧ sortF l = (0, O)) ∨ (r.1 = .ret ∧ nth 0 r.2.1 = .nils ∧ nth 1 r.2.1 = .int .i64 7 ∧ sortF l = (7, [])))) l.length
   ⟨Nat.le_refl _, fun _ _ => rfl, _, _, _, _, _, _, _, 0, [], rfl, rfl, Own.nils _ _ _ _, by simp, List.Pairwise.nil⟩ ?_ ?_
 ·rintro k ds g ⟨hgl, hgq, a, b, x, c, e, f, u, i, O, rfl, hk, ow, hp, hs⟩
  simp only [F1015_L1, nth_zero, nth_succ, bs, Option.bind_assoc, lens29 hd, dBin_lss]
  refine Wp.dif ?_ ?_
  ·intro h0
   have h0 : i < l.length := by have : (i : Int) < l.length := by simpa using h0
                                omega
   obtain ⟨y, hy⟩ : ∃ y, l[i]? = some y := ⟨_, List.getElem?_eq_getElem h0⟩
   have hw : IntKind.wrap .i64 ((i : Int) + 1) = ((i + 1 : Nat) : Int) := by rw [wrap_i64 (by omega) (by omega)]; omega
   have hOl : O.length = i := by rw [hp.length_eq, List.length_take]; omega
   have hlit : pLitF tab ty29 1 [0] [.agg (fld y)] = some (.sl 2 true [fld y]) := id rfl
   have hix : dIndexAddr tab ty29 d (.int .i64 (i : Int)) = some (.fptr (fld y)) := by rw [ixs29 hd]; simp [-bind_some, hy]
   simp only [leno29 ow, List.length_map, hix, bs, fld_ld, hlit, Option.bind_assoc]
   refine wap29 hgl ow (rowsOf_sl _ _ _ _) (by simp only [List.length_map, List.length_cons, List.length_nil]; omega) fun x1 g1 ow1 len1 bel1 _ _ => ?_
   have hrow : O.map fld ++ [fld y] = (O ++ [y]).map fld := by simp
   rw [hrow] at ow1
   obtain ⟨ob, hob, rfl, hgo⟩ := own_ix ow1 (i := 0) (by simp)
   have hlen1 : ((O ++ [y]).map fld).length = O.length + 1 := by simp
   rw [hlen1]
   try simp only [bs]
   refine l1015s l d hd [a, b, x, .int .i64 (i : Int), c, e, f, u] i y hy rfl O (by omega) ob g1 hgo _ fun k' z g2 v k1 k2 k3 k4 k5 => ?_
   have hm : (O.take k').length = k' := by simp; omega
   have hzk : ((O.take k' ++ z :: O.drop k').map fld)[k']? = some (fld z) := by rw [List.getElem?_map, get_midn _ _ z _ hm]; rfl
   have ik : dIndexAddr tab ty29 (.msl 2 ob 0 (O.length + 1)) (.int .i64 (k' : Int)) = some (.ptr ob k' 0) := by rw [ixm29, if_pos (by omega)]; simp [-bind_some]
   simp only [unblk_self, toEnd_nrm, bs, nth_zero, nth_succ, Option.bind_assoc, hix, fld_ld, ik]
   refine wst109 (off := 0) k2 hzk (by rfl) (by exact Nat.le_refl _) (by rfl) fun g3 p3 s3 => ?_
   rw [show spl (fld z) 0 (cells1 (.agg (fld y))) = fld y from rfl, ← List.map_set, set_mid _ _ z y _ hm] at p3
   have hlenN : (O.take k' ++ y :: O.drop k').length = O.length + 1 := by
    have := congrArg List.length (List.take_append_drop k' O)
    simp only [List.length_append, List.length_cons] at this ⊢; omega
   have ow3 : Own g3 h.length ty109 2 ((O.take k' ++ y :: O.drop k').map fld) (.msl 2 ob 0 (O.length + 1)) := .inr ⟨ob, hob, by rw [List.length_map, hlenN], p3⟩
   have hgl3 : h.length ≤ g3.length := by have := s3.1; have := k3.1; omega
   have hgq3 : ∀ q, q < h.length → g3[q]? = h[q]? := fun q hq => by rw [s3.2 q (by omega), k3.2 q (by omega), bel1 q hq]; exact hgq q hq
   have hpN : (O.take k' ++ y :: O.drop k').Perm (l.take (i + 1)) := by
    rw [List.take_add_one, hy, Option.toList_some]
    refine List.perm_middle.trans ?_
    rw [List.take_append_drop]
    exact (List.Perm.cons y hp).trans (by simpa using (List.perm_append_comm (l₁ := [y]) (l₂ := l.take i)))
   have nxt : (O.take k' ++ y :: O.drop k').Pairwise ltS → ∀ (c1 c2 c3 c4 c5 c6 : D), (fun r : Out => (r.1 = .nrm ∧ ∃ k'' , k'' < k ∧ h.length ≤ r.2.2.length ∧ (∀ q, q < h.length → r.2.2[q]? = h[q]?) ∧ ∃ a b x c e f u, ∃ (i : Nat) (O : List (Str × Str)), r.2.1 = [a, b, x, .int .i64 (i : Int), c, e, f, u] ∧ k'' + i = l.length ∧ Own r.2.2 h.length ty109 2 (O.map fld) x ∧ O.Perm (l.take i) ∧ O.Pairwise ltS)) (.nrm, [c1, c2, .msl 2 ob 0 (O.length + 1), .int .i64 ((i + 1 : Nat) : Int), c3, c4, c5, c6], g3) := fun hs3 c1 c2 c3 c4 c5 c6 => ⟨rfl, k - 1, by omega, hgl3, hgq3, _, _, _, _, _, _, _, i + 1, _, rfl, by omega, ow3, hpN, hs3⟩
   try simp only [bs, dBin_gtr, Option.bind_assoc]
   by_cases hk0 : k' = 0
   ·subst hk0
    have d0 : decide (((0 : Nat) : Int) > 0) = false := decide_eq_false (by omega)
    simp only [d0, gd_bool, gd_und, reduceCtorEq, if_false, if_true, bs, dPick_bool, Bool.false_eq_true, dIf_bool, dBin_add, hw]
    exact .some (.inl (nxt (ins_lt hs (.inl rfl) k5) _ _ _ _ _ _))
   ·obtain ⟨w, hwk, hwn⟩ := k4.resolve_left hk0
    have d0 : decide ((k' : Int) > 0) = true := decide_eq_true (by omega)
    have hw1 : IntKind.wrap .i64 ((k' : Int) - 1) = ((k' - 1 : Nat) : Int) := by rw [wrap_i64 (by omega) (by omega)]; omega
    have iw : dIndexAddr tab ty29 (.msl 2 ob 0 (O.length + 1)) (.int .i64 ((k' - 1 : Nat) : Int)) = some (.ptr ob (k' - 1) 0) := by rw [ixm29, if_pos (by omega)]; simp [-bind_some]
    have hwr : ((O.take k' ++ y :: O.drop k').map fld)[k' - 1]? = some (fld w) := by
     rw [List.getElem?_map, List.getElem?_append_left (by omega), List.getElem?_take, if_pos (by omega), hwk]; rfl
    have lw : dLoad tab g3 ty9 (.ptr ob (k' - 1) 0) = some (.str w.1) := by rw [ldp9, row_of p3, hwr]; rfl
    simp only [d0, gd_bool, if_true, bs, dBin_sub, hw1, iw, fap109_0, lw, hix, fld_f0 y, fld_l0, dBin_seql, dPick_bool]
    by_cases heq : w.1 = y.1
    ·have hb1 : (w.1 == y.1) = true := by simpa using heq
     have hwm : w ∈ l.take i := hp.mem_iff.1 (List.mem_of_getElem? hwk)
     have hd7 := sort_two (l := l) (by omega) hv (dup_not hy hwm heq)
     simp only [hb1, dIf_bool, if_true]
     exact .some (.inr ⟨by simp, hgl3, hgq3, .inr ⟨rfl, rfl, rfl, hd7⟩⟩)
    ·have hb1 : (w.1 == y.1) = false := by simpa using heq
     have hwy : ltS w y := by
      have h1 : Op.bytesLess y.1 w.1 = false := by
       cases hq : Op.bytesLess y.1 w.1
       ·rfl
       ·exact absurd hq hwn
      exact bL_tot h1 (fun hh => heq hh.symm)
     simp only [hb1, dIf_bool, Bool.false_eq_true, if_false, dBin_add, hw, bs]
     exact .some (.inl (nxt (ins_lt hs (.inr ⟨w, hwk, hwy⟩) k5) _ _ _ _ _ _))
  ·intro h0
   have h0 : l.length ≤ i := by have : ¬ (i : Int) < l.length := by simpa using h0
                                omega
   rw [List.take_of_length_le h0] at hp
   exact .some (.inr ⟨by simp, hgl, hgq, .inl ⟨rfl, O, ow, sort_lt hp hs (by omega) hv⟩⟩)
 ·rintro ⟨ex, ds, g⟩ ⟨hgl, hgq, h3⟩
  rcases h3 with ⟨rfl, O, ow, hO⟩ | ⟨rfl, n0, n1, hO⟩
  ·have hs := own_sl (n0 := h.length) (n := 2) ow (Nat.le_refl _) fun p _ y hy => by
     simp only [fld, List.mem_cons, List.not_mem_nil, or_false] at hy
     rcases hy with rfl | rfl <;> exact frz_str _ _ _ _
   have hsc : scope h g (.tup [nth 2 ds, .int .i64 0]) = some (.tup [frz h.length g 3 (nth 2 ds), .int .i64 0], h) := by
    refine scope_eq (by simp) (.tup _ fun x hx => ?_) hgl hgq
    simp only [List.mem_cons, List.not_mem_nil, or_false] at hx
    rcases hx with rfl | rfl
    ·exact slof_ok hs fun p _ y hy => by
       simp only [fld, List.mem_cons, List.not_mem_nil, or_false] at hy
       rcases hy with rfl | rfl <;> exact .str _
    ·exact .int _ _
   simp only [unblk_self, toEnd_nrm, bs, nth_zero, nth_succ, mkRes_two, hsc, hO]
   exact .some ⟨rfl, _, rfl, fun _ => hs⟩
  ·replace n0 : nth 0 ds = .nils := n0
   replace n1 : nth 1 ds = .int .i64 7 := n1
   simp only [unblk_ret, toEnd_ret, exEnd_ret, nth_zero, nth_succ, bs, n0, n1, mkRes_two, sc g 7 hgl hgq, hO]
   exact .some ⟨rfl, .nils, rfl, fun hh => by cases hh⟩
theorem l1010 (l : List (Str × Str)) (d : D) (h : Hp) (hd : SlOf 2 fld l d) (hl : l.length ≤ 1000) {β : Type} {K : Out → Option β} {Q : β → Prop} (a x1 x2 : D)
  (k1 : (l.any fun p => decide (2000 < p.2.length)) = false → ∀ x y z, Wp (K (.ext 0, [a, x, y, z], h)) Q) (k2 : (l.any fun p => decide (2000 < p.2.length)) = true → ∀ x y z, Wp (K (.ret, [.int .i64 3, x, y, z], h)) Q) :
  Wp ((loopW (F1010_L0 d) [a, .int .i64 0, x1, x2] h).bind K) Q := by
 generalize hV : (l.any fun p => decide (2000 < p.2.length)) = V at k1 k2
 refine Wp.loop (fun k ds g => g = h ∧ ∃ e f, ∃ i : Nat, ds = [a, .int .i64 (i : Int), e, f] ∧ k + i = l.length ∧ ((l.drop i).any fun p => decide (2000 < p.2.length)) = V)
   (fun x => x.2.2 = h ∧ ((x.1 = .ext 0 ∧ V = false ∧ ∃ p q r, x.2.1 = [a, p, q, r]) ∨ (x.1 = .ret ∧ V = true ∧ ∃ p q r, x.2.1 = [.int .i64 3, p, q, r]))) l.length ⟨rfl, _, _, 0, rfl, rfl, hV⟩ ?_ ?_
 ·rintro k ds g ⟨rfl, e, f, i, rfl, hk, hch⟩
  simp only [F1010_L0, nth_zero, nth_succ, bs, Option.bind_assoc, lens29 hd, dBin_lss]
  refine Wp.dif ?_ ?_
  ·intro h0
   have h0 : i < l.length := by have : (i : Int) < l.length := by simpa using h0
                                omega
   obtain ⟨x, hx⟩ : ∃ x, l[i]? = some x := ⟨_, List.getElem?_eq_getElem h0⟩
   have hw : IntKind.wrap .i64 ((i : Int) + 1) = ((i + 1 : Nat) : Int) := by rw [wrap_i64 (by omega) (by omega)]; omega
   rw [drop_cons hx] at hch
   have hix : dIndexAddr tab ty29 d (.int .i64 (i : Int)) = some (.fptr (fld x)) := by rw [ixs29 hd]; simp [-bind_some, hx]
   have f1 : dFieldAddr tab ty109 1 (.fptr (fld x)) = some (.fptr [.str x.2]) := id rfl
   have l1 : dLoad tab g ty9 (.fptr [.str x.2]) = some (.str x.2) := id rfl
   simp only [hix, f1, l1, bs, len9, dBin_gtr]
   simp only [List.any_cons] at hch
   by_cases hf : 2000 < x.2.length
   ·have hf' : (x.2.length : Int) > 2000 := by omega
    simp only [hf, decide_true, Bool.true_or] at hch
    simp only [hf', decide_true, dIf_bool, if_true]
    exact .some (.inr ⟨by simp, rfl, .inr ⟨rfl, hch.symm, _, _, _, rfl⟩⟩)
   ·have hf' : ¬ (x.2.length : Int) > 2000 := by omega
    simp only [hf, decide_false, Bool.false_or] at hch
    simp only [hf', decide_false, dIf_bool, Bool.false_eq_true, if_false, dBin_add, bs, hw]
    exact .some (.inl ⟨rfl, k - 1, by omega, rfl, _, _, i + 1, rfl, by omega, hch⟩)
  ·intro h0
   have h0 : l.length ≤ i := by have : ¬ (i : Int) < l.length := by simpa using h0
                                omega
   rw [List.drop_of_length_le h0] at hch
   exact .some (.inr ⟨by simp, rfl, .inl ⟨rfl, hch.symm, _, _, _, rfl⟩⟩)
 ·rintro ⟨x, ds, g⟩ ⟨h2, h3⟩
  simp only at h2 h3
  subst h2
  rcases h3 with ⟨rfl, hv, p, q, r, rfl⟩ | ⟨rfl, hv, p, q, r, rfl⟩
  ·exact k1 hv _ _ _
  ·exact k2 hv _ _ _
def NmB (e : Ev) : Prop := ∀ p ∈ e.fs, p.1.length ≤ 9223372036854775807
theorem s1010g (e : Ev) (h : Hp) (hb : NmB e) : R fn1010 [.agg (evr e)] h = some (.int .i64 (evE e), h) := by
 suffices Wp (R fn1010 [.agg (evr e)] h) (fun p => p = (.int .i64 (evE e), h)) by
  obtain ⟨p, h1, rfl⟩ := this
  exact h1
 have q5 : dFieldAddr tab ty31 5 (.fptr (evr e)) = some (.fptr [.int .i64 e.a5, .int .i64 e.a6, .str e.s7, .str e.s8, e.fd]) := id rfl
 have q6 : dFieldAddr tab ty31 6 (.fptr (evr e)) = some (.fptr [.int .i64 e.a6, .str e.s7, .str e.s8, e.fd]) := id rfl
 have q7 : dFieldAddr tab ty31 7 (.fptr (evr e)) = some (.fptr [.str e.s7, .str e.s8, e.fd]) := id rfl
 have q8 : dFieldAddr tab ty31 8 (.fptr (evr e)) = some (.fptr [.str e.s8, e.fd]) := id rfl
 have q9 : dFieldAddr tab ty31 9 (.fptr (evr e)) = some (.fptr [e.fd]) := id rfl
 have l9 : ∀ g, dLoad tab g ty29 (.fptr [e.fd]) = some e.fd := fun g => by
  have h1 := slof_one e.hfd
  generalize e.fd = a at h1
  cases a <;> first | rfl | (simp [-bind_some, D.one] at h1)
 have hL : ∀ g, dLoad tab g ty31 (.fptr (evr e)) = some (.agg (evr e)) := fun g => id rfl
 rw [e1010]
 simp only [F1010, pBoxF_agg, bs, Option.bind_assoc, hL, s1011g, q5, q6, q7, q8, q9]
 unfold evE
 by_cases c1 : plB e = true
 case neg =>
  have c1' : plB e = false := by simpa using c1
  simp only [c1', Bool.false_eq_true, if_false, dBin_neq, ne_eq, show ¬ (2 : Int) = 0 by omega, not_false_eq_true, decide_true, gd_bool, gd_und, reduceCtorEq, Bool.true_eq_false, bs, dPick_bool, if_true, dIf_bool, Bool.not_false, Bool.true_or, mkRes_one]
  exact .some rfl
 by_cases c2 : e.a5 < 0
 ·have c2' : ¬ 0 ≤ e.a5 := by omega
  simp only [c1, c2, c2', if_true, dBin_neq, ne_eq, not_true, decide_true, decide_false, gd_bool, gd_und, ld3, dBin_lss, reduceCtorEq, Bool.true_eq_false, Bool.false_eq_true, if_false, bs, dPick_bool, dIf_bool, Bool.not_true, Bool.false_and, Bool.not_false, Bool.or_true, mkRes_one]
  exact .some rfl
 have c2' : 0 ≤ e.a5 := by omega
 by_cases c3 : 253402300799999 < e.a5
 ·have c3' : ¬ e.a5 ≤ 253402300799999 := by omega
  simp only [c1, c2, c2', c3, c3', if_true, dBin_neq, ne_eq, not_true, decide_true, decide_false, gd_bool, gd_und, ld3, dBin_lss, dBin_gtr, reduceCtorEq, Bool.true_eq_false, Bool.false_eq_true, if_false, bs, dPick_bool, dIf_bool, Bool.not_true, Bool.and_false, Bool.not_false, Bool.or_true, mkRes_one, gt_iff_lt]
  exact .some rfl
 have c3' : e.a5 ≤ 253402300799999 := by omega
 simp only [c1, c2, c2', c3, c3', if_true, dBin_neq, ne_eq, not_true, decide_true, decide_false, gd_bool, gd_und, ld3, dBin_lss, dBin_gtr, reduceCtorEq, Bool.true_eq_false, Bool.false_eq_true, if_false, bs, dPick_bool, dIf_bool, Bool.not_true, Bool.and_true, Bool.or_self, Bool.and_self, gt_iff_lt, s1014g, dUn_not, Option.bind_assoc]
 by_cases c4 : e.a6 < 1 ∨ ¬ Int.tmod 5040 e.a6 = 0
 ·simp only [c4, not_true, decide_false, Bool.not_false, if_true, mkRes_one]
  exact .some rfl
 simp only [c4, not_false_eq_true, decide_true, Bool.not_true, Bool.false_eq_true, if_false, hL, s1012g, bs, dBin_neq, ne_eq]
 generalize hLn : linesE e 2000 = L
 by_cases c5 : L = 0
 case neg =>
  simp only [c5, not_false_eq_true, decide_true, if_true, mkRes_one]
  exact .some rfl
 subst c5
 simp only [not_true, decide_false, Bool.false_eq_true, if_false, ld9, len9, bs, dBin_gtr, gt_iff_lt]
 by_cases c6 : 32 < e.s7.length
 ·have c6' : (32 : Int) < (e.s7.length : Int) := by omega
  simp only [c6, c6', true_or, decide_true, if_true, gd_bool, gd_und, reduceCtorEq, if_false, Bool.true_eq_false, bs, dPick_bool, dIf_bool, mkRes_one]
  exact .some rfl
 have c6' : ¬ (32 : Int) < (e.s7.length : Int) := by omega
 by_cases c7 : 32 < e.s8.length
 ·have c7' : (32 : Int) < (e.s8.length : Int) := by omega
  simp only [c6, c6', c7, c7', or_true, decide_true, decide_false, if_true, gd_bool, if_false, Bool.false_eq_true, bs, ld9, len9, dBin_gtr, gt_iff_lt, dPick_bool, dIf_bool, mkRes_one]
  exact .some rfl
 have c7' : ¬ (32 : Int) < (e.s8.length : Int) := by omega
 obtain ⟨d', hs, hsl⟩ := s1015g e.fs e.fd h e.hfd hb
 simp only [c6, c6', c7, c7', or_self, decide_false, if_true, gd_bool, if_false, Bool.false_eq_true, bs, ld9, len9, dBin_gtr, gt_iff_lt, dPick_bool, dIf_bool, l9, hs, dExtract_tup, List.getElem?_cons_zero, List.getElem?_cons_succ, dBin_neq, ne_eq]
 have hsl2 := sortF_len e.fs
 have hs32 : (sortF e.fs).1 = 0 → (sortF e.fs).2.length ≤ 1000 := fun h0 => by
  unfold sortF at h0 ⊢
  split
  ·simp [-bind_some]
  ·split
   ·split
    ·simp [-bind_some]
    ·simp only [srt_len]; omega
   ·simp [-bind_some]
 generalize hS : sortF e.fs = S at hs hsl hsl2 hs32
 obtain ⟨v, s⟩ := S
 simp only at hsl hsl2 hs32 ⊢
 by_cases c8 : v = 0
 case neg =>
  simp only [c8, not_false_eq_true, decide_true, if_true, mkRes_one]
  exact .some rfl
 subst c8
 have hsd := hsl rfl
 have hsn := hs32 rfl
 simp only [not_true, decide_false, Bool.false_eq_true, if_false, bs, s95 s e.fs d' e.fd h hsd e.hfd (by omega), dUn_not, Option.bind_assoc]
 by_cases c9 : s = e.fs
 case neg =>
  simp only [c9, decide_false, Bool.not_false, if_true, not_false_eq_true, mkRes_one]
  exact .some rfl
 simp only [c9, decide_true, Bool.not_true, Bool.false_eq_true, if_false, not_true]
 rw [c9] at hsd hsn
 refine l1010 e.fs d' h hsd hsn _ _ _ (fun hv x y z => ?_) (fun hv x y z => ?_)
 ·simp only [unblk_self, toEnd_nrm, bs, mkRes_one, hv, Bool.false_eq_true, if_false]
  exact .some rfl
 ·simp only [unblk_ret, toEnd_ret, exEnd_ret, nth_zero, bs, mkRes_one, hv, if_true]
  exact .some rfl
theorem lnE_vals (t m : Int) : ∀ (l : List Lin) (a : Int), lnE t m a l = 0 ∨ lnE t m a l = 3 ∨ lnE t m a l = 19
 | [], a => .inl rfl
 | x :: r, a => by
  unfold lnE
  split
  ·split
   ·exact .inr (.inl rfl)
   ·exact lnE_vals t m r _
  ·exact .inr (.inr rfl)
theorem lnE_eq (t : Int) : ∀ (l : List Lin) (a : Int), (∀ x ∈ l, x.txt.length ≤ 20000) → lnE t 20000 a l = lnE t 60000 a l
 | [], a, _ => rfl
 | x :: r, a, h => by
  have h0 := h x (by simp)
  have h1 := lnE_eq t r (IntKind.wrap .i64 (a + x.len)) fun y hy => h y (by simp [-bind_some, hy])
  have h2 : ¬ (20000 : Int) < (x.txt.length : Int) := by omega
  have h3 : ¬ (60000 : Int) < (x.txt.length : Int) := by omega
  simp only [lnE, h1, h2, h3, if_false]
def itR (i : It) : Int :=
 if i.r = [] then evE i.e
 else if 32 < i.r.length then 3
 else if plB i.e = false then 2
 else if linesE i.e 20000 ≠ 0 ∧ linesE i.e 20000 ≠ 3 then linesE i.e 20000
 else if i.e.a5 ≠ 0 ∨ i.e.a6 ≠ 0 ∨ i.e.s7 ≠ [] ∨ i.e.s8 ≠ [] ∨ i.e.fs.length ≠ 0 ∨ (i.e.ls.any fun p => !(p.txt == [])) = true then 19 else 0
theorem itR_itE (i : It) : itR i = itE i := by
 unfold itR itE
 by_cases c0 : i.r = []
 ·simp only [c0, if_true]
 by_cases c1 : 32 < i.r.length
 ·simp only [c0, c1, if_true, if_false]
 by_cases c2 : plB i.e = false
 ·simp only [c0, c1, c2, if_true, if_false]
 simp only [c0, c1, c2, if_false]
 unfold linesE
 by_cases d0 : i.e.ls.length = 0
 ·simp [-bind_some, d0]
 by_cases d1 : 40 < i.e.ls.length
 ·simp [-bind_some, d0, d1]
 simp only [d0, d1, if_false]
 have v20 := lnE_vals i.e.a3 20000 i.e.ls i.e.a2
 have v60 := lnE_vals i.e.a3 60000 i.e.ls i.e.a2
 by_cases hs : ∀ x ∈ i.e.ls, x.txt.length ≤ 20000
 ·rw [lnE_eq i.e.a3 i.e.ls i.e.a2 hs]
  generalize lnE i.e.a3 60000 i.e.a2 i.e.ls = L at v60 ⊢
  rcases v60 with rfl | rfl | rfl <;> simp [-bind_some]
 ·have hany : (i.e.ls.any fun p => !(p.txt == [])) = true := by
    rw [List.any_eq_true]
    refine Classical.byContradiction fun hn => hs fun x hx => ?_
    refine Classical.byContradiction fun h2 => hn ⟨x, hx, ?_⟩
    cases ht : x.txt with
    | nil => rw [ht] at h2; simp at h2
    | cons a b => rfl
  generalize (i.e.ls.any fun p => !(p.txt == [])) = bb at hany ⊢
  subst hany
  generalize lnE i.e.a3 60000 i.e.a2 i.e.ls = L at v60 ⊢
  generalize lnE i.e.a3 20000 i.e.a2 i.e.ls = M at v20 ⊢
  rcases v60 with rfl | rfl | rfl <;> rcases v20 with rfl | rfl | rfl <;> simp [-bind_some]
theorem l1004 (e : Ev) (h : Hp) {β : Type} {K : Out → Option β} {Q : β → Prop} (a x1 x2 : D)
  (k1 : (e.ls.any fun p => !(p.txt == [])) = false → ∀ x y z, Wp (K (.ext 0, [a, x, y, z], h)) Q) (k2 : (e.ls.any fun p => !(p.txt == [])) = true → ∀ x y z, Wp (K (.ret, [.int .i64 19, x, y, z], h)) Q) :
  Wp ((loopW (F1004_L0 (.fptr (evr e))) [a, .int .i64 0, x1, x2] h).bind K) Q := by
 have q4 : dFieldAddr tab ty31 4 (.fptr (evr e)) = some (.fptr [e.ld, .int .i64 e.a5, .int .i64 e.a6, .str e.s7, .str e.s8, e.fd]) := id rfl
 have hl := e.hll
 generalize hV : (e.ls.any fun p => !(p.txt == [])) = V at k1 k2
 refine Wp.loop (fun k ds g => g = h ∧ ∃ u f, ∃ i : Nat, ds = [a, .int .i64 (i : Int), u, f] ∧ k + i = e.ls.length ∧ ((e.ls.drop i).any fun p => !(p.txt == [])) = V)
   (fun x => x.2.2 = h ∧ ((x.1 = .ext 0 ∧ V = false ∧ ∃ p q r, x.2.1 = [a, p, q, r]) ∨ (x.1 = .ret ∧ V = true ∧ ∃ p q r, x.2.1 = [.int .i64 19, p, q, r]))) e.ls.length ⟨rfl, _, _, 0, rfl, rfl, hV⟩ ?_ ?_
 ·rintro k ds g ⟨rfl, u, f, i, rfl, hk, hch⟩
  simp only [F1004_L0, nth_zero, nth_succ, bs, Option.bind_assoc, q4, ld28, lens28 e.hld, dBin_lss]
  refine Wp.dif ?_ ?_
  ·intro h0
   have h0 : i < e.ls.length := by have : (i : Int) < e.ls.length := by simpa using h0
                                   omega
   obtain ⟨x, hx⟩ : ∃ x, e.ls[i]? = some x := ⟨_, List.getElem?_eq_getElem h0⟩
   have hw : IntKind.wrap .i64 ((i : Int) + 1) = ((i + 1 : Nat) : Int) := by rw [wrap_i64 (by omega) (by omega)]; omega
   rw [drop_cons hx] at hch
   have hix : dIndexAddr tab ty28 e.ld (.int .i64 (i : Int)) = some (.fptr (linr x)) := by rw [ixs28 e.hld]; simp [-bind_some, hx]
   have f1 : dFieldAddr tab ty78 2 (.fptr (linr x)) = some (.fptr [.str x.txt]) := id rfl
   have l1 : dLoad tab g ty9 (.fptr [.str x.txt]) = some (.str x.txt) := id rfl
   simp only [hix, f1, l1, bs, dBin_sneq]
   simp only [List.any_cons] at hch
   by_cases hf : (x.txt == []) = true
   ·simp only [hf, Bool.not_true, Bool.false_or] at hch
    simp only [hf, Bool.not_true, dIf_bool, Bool.false_eq_true, if_false, dBin_add, bs, hw]
    exact .some (.inl ⟨rfl, k - 1, by omega, rfl, _, _, i + 1, rfl, by omega, hch⟩)
   ·have hf : (x.txt == []) = false := by simpa using hf
    simp only [hf, Bool.not_false, Bool.true_or] at hch
    simp only [hf, Bool.not_false, dIf_bool, if_true]
    exact .some (.inr ⟨by simp, rfl, .inr ⟨rfl, hch.symm, _, _, _, rfl⟩⟩)
  ·intro h0
   have h0 : e.ls.length ≤ i := by have : ¬ (i : Int) < e.ls.length := by simpa using h0
                                   omega
   rw [List.drop_of_length_le h0] at hch
   exact .some (.inr ⟨by simp, rfl, .inl ⟨rfl, hch.symm, _, _, _, rfl⟩⟩)
 ·rintro ⟨x, ds, g⟩ ⟨h2, h3⟩
  simp only at h2 h3
  subst h2
  rcases h3 with ⟨rfl, hv, p, q, r, rfl⟩ | ⟨rfl, hv, p, q, r, rfl⟩
  ·exact k1 hv _ _ _
  ·exact k2 hv _ _ _
theorem s1004g (i : It) (h : Hp) (hb : NmB i.e) : R fn1004 [.agg (itr i)] h = some (.int .i64 (itE i), h) := by
 rw [← itR_itE]
 suffices Wp (R fn1004 [.agg (itr i)] h) (fun p => p = (.int .i64 (itR i), h)) by
  obtain ⟨p, h1, rfl⟩ := this
  exact h1
 have hbx : boxN 10 (.agg (evr i.e)) = some (.fptr (evr i.e)) := boxN_agg 10 _ rfl
 have q5 : dFieldAddr tab ty31 5 (.fptr (evr i.e)) = some (.fptr [.int .i64 i.e.a5, .int .i64 i.e.a6, .str i.e.s7, .str i.e.s8, i.e.fd]) := id rfl
 have q6 : dFieldAddr tab ty31 6 (.fptr (evr i.e)) = some (.fptr [.int .i64 i.e.a6, .str i.e.s7, .str i.e.s8, i.e.fd]) := id rfl
 have q7 : dFieldAddr tab ty31 7 (.fptr (evr i.e)) = some (.fptr [.str i.e.s7, .str i.e.s8, i.e.fd]) := id rfl
 have q8 : dFieldAddr tab ty31 8 (.fptr (evr i.e)) = some (.fptr [.str i.e.s8, i.e.fd]) := id rfl
 have q9 : dFieldAddr tab ty31 9 (.fptr (evr i.e)) = some (.fptr [i.e.fd]) := id rfl
 rw [e1004]
 simp only [F1004, pBoxF_agg, bs, Option.bind_assoc, itF0, itF1, itL0, evL, hbx, dBin_seql, mkRes_one]
 unfold itR
 by_cases c0 : i.r = []
 ·simp only [c0, beq_self_eq_true, dIf_bool, if_true, s1010g i.e h hb, bs]
  exact .some rfl
 have c0' : (i.r == []) = false := by simpa using c0
 simp only [c0, c0', dIf_bool, Bool.false_eq_true, if_false, len9, bs, dBin_gtr]
 by_cases c1 : 32 < i.r.length
 ·have c1' : (i.r.length : Int) > 32 := by omega
  simp only [c1, c1', decide_true, if_true]
  exact .some rfl
 have c1' : ¬ (i.r.length : Int) > 32 := by omega
 simp only [c1, c1', decide_false, Bool.false_eq_true, if_false, s1011g, bs, dBin_neq, ne_eq]
 by_cases c2 : plB i.e = true
 case neg =>
  have c2' : plB i.e = false := by simpa using c2
  simp only [c2', Bool.false_eq_true, if_false, show ¬ (2 : Int) = 0 by omega, not_false_eq_true, decide_true, dIf_bool, if_true]
  exact .some rfl
 simp only [c2, if_true, not_true, decide_false, dIf_bool, Bool.false_eq_true, Bool.true_eq_false, if_false, s1012g, bs, dBin_neq, ne_eq]
 generalize linesE i.e 20000 = L
 by_cases c3 : L ≠ 0 ∧ L ≠ 3
 ·obtain ⟨c4, c5⟩ := c3
  simp only [ne_eq, c4, c5, not_false_eq_true, decide_true, gd_bool, if_true, bs, dPick_bool, dIf_bool, and_self, dBin_neq]
  exact .some rfl
 have c3' : decide (¬ L = 0) = true → decide (¬ L = 3) = false := by
  intro q
  have q : ¬ L = 0 := by simpa using q
  by_cases h3 : L = 3
  ·simp [-bind_some, h3]
  ·exact absurd ⟨q, h3⟩ c3
 rw [if_neg (by simpa [-bind_some, ne_eq] using c3)]
 have step : ∀ (K : D → Option (D × Hp)), ((gd (.bool (decide (¬ L = 0))) true (some (.int .i64 L))).bind fun t29 => (gd (.bool (decide (¬ L = 0))) true (dBin tab .neq ty49 t29 (.int .i64 3))).bind fun t30 => (dPick (.bool (decide (¬ L = 0))) t30 (.bool false)).bind K) = K (.bool false) := by
  intro K
  cases hq : decide (¬ L = 0) with
  | false => simp only [gd_bool, Bool.false_eq_true, if_false, reduceCtorEq, bs, dPick_bool]
  | true => simp only [gd_bool, if_true, bs, dBin_neq, ne_eq, c3' hq, dPick_bool]
 rw [step]
 simp only [dIf_bool, Bool.false_eq_true, if_false, q5, q6, q7, q8, q9, ld3, ld9, ld29, bs, dBin_neq, dBin_sneq, lens29 i.e.hfd, Option.bind_assoc, ne_eq]
 have hfl : (i.e.fs.length : Int) = 0 ↔ i.e.fs.length = 0 := by omega
 by_cases d1n : ¬ i.e.a5 = 0
 ·simp only [d1n, not_false_eq_true, true_or, decide_true, gd_bool, gd_und, reduceCtorEq, if_true, Bool.true_eq_false, if_false, bs, dPick_bool, dIf_bool]
  exact .some rfl
 have d1 : i.e.a5 = 0 := Decidable.not_not.1 d1n
 by_cases d2n : ¬ i.e.a6 = 0
 ·simp only [d1, d2n, not_true, not_false_eq_true, true_or, false_or, decide_true, decide_false, gd_bool, gd_und, q6, ld3, dBin_neq, ne_eq, reduceCtorEq, if_true, Bool.true_eq_false, Bool.false_eq_true, if_false, bs, dPick_bool, dIf_bool]
  exact .some rfl
 have d2 : i.e.a6 = 0 := Decidable.not_not.1 d2n
 by_cases d3n : ¬ i.e.s7 = []
 ·have d3b : (i.e.s7 == []) = false := by simpa using d3n
  simp only [d1, d2, d3n, d3b, not_true, not_false_eq_true, true_or, false_or, decide_true, decide_false, gd_bool, gd_und, q6, q7, ld3, ld9, dBin_neq, dBin_sneq, ne_eq, Bool.not_false, reduceCtorEq, if_true, Bool.true_eq_false, Bool.false_eq_true, if_false, bs, dPick_bool, dIf_bool]
  exact .some rfl
 have d3 : i.e.s7 = [] := Decidable.not_not.1 d3n
 by_cases d4n : ¬ i.e.s8 = []
 ·have d4b : (i.e.s8 == []) = false := by simpa using d4n
  simp only [d1, d2, d3, d4n, d4b, not_true, not_false_eq_true, true_or, false_or, decide_true, decide_false, gd_bool, gd_und, q6, q7, q8, ld3, ld9, dBin_neq, dBin_sneq, ne_eq, beq_self_eq_true, Bool.not_true, Bool.not_false, reduceCtorEq, if_true, Bool.true_eq_false, Bool.false_eq_true, if_false, bs, dPick_bool, dIf_bool]
  exact .some rfl
 have d4 : i.e.s8 = [] := Decidable.not_not.1 d4n
 by_cases d5n : ¬ i.e.fs.length = 0
 ·simp only [d1, d2, d3, d4, d5n, hfl, not_true, not_false_eq_true, true_or, false_or, decide_true, decide_false, gd_bool, gd_und, q6, q7, q8, q9, ld3, ld9, ld29, lens29 i.e.hfd, dBin_neq, dBin_sneq, ne_eq, beq_self_eq_true, Bool.not_true, Bool.not_false, reduceCtorEq, if_true, Bool.true_eq_false, Bool.false_eq_true, if_false, bs, dPick_bool, dIf_bool]
  exact .some rfl
 have d5 : i.e.fs.length = 0 := Decidable.not_not.1 d5n
 simp only [d1, d2, d3, d4, d5, hfl, not_true, false_or, decide_false, gd_bool, gd_und, q6, q7, q8, q9, ld3, ld9, ld29, lens29 i.e.hfd, dBin_neq, dBin_sneq, ne_eq, beq_self_eq_true, Bool.not_true, reduceCtorEq, if_true, Bool.false_eq_true, if_false, bs, dPick_bool, dIf_bool]
 refine l1004 i.e h _ _ _ (fun hv x y z => ?_) (fun hv x y z => ?_)
 ·simp only [unblk_self, toEnd_nrm, bs, mkRes_one, hv, Bool.false_eq_true, if_false]
  exact .some rfl
 ·simp only [unblk_ret, toEnd_ret, exEnd_ret, nth_zero, bs, mkRes_one, hv, if_true]
  exact .some rfl
def chkB (hs : Int) : List It → Int
 | [] => 0
 | i :: r => if itE i ≠ 0 then itE i else if i.e.a0 ≠ hs then 24 else if i.r = [42] then 6 else chkB hs r
def chkBat (hs : Int) (its : List It) : Int := if 40 < its.length then 4 else chkB hs its
theorem s1094w (hs nu : Int) (its : List It) (d : D) (h : Hp) (hd : RdI h its d) : R fn1094 [.agg (batx hs nu d)] h = some (.int .i64 (chkBat hs its), h) := by
 suffices Wp (R fn1094 [.agg (batx hs nu d)] h) (fun p => p = (.int .i64 (chkBat hs its), h)) by
  obtain ⟨p, h1, rfl⟩ := this
  exact h1
 rw [e1094]
 simp only [F1094, pBoxF_agg, bx2, ld113, rdI_len hd, bs, Option.bind_assoc, dBin_gtr]
 by_cases h40 : 40 < its.length
 ·have hlen : (its.length : Int) > 40 := by omega
  simp only [hlen, decide_true, dIf_bool, if_true, mkRes_one, chkBat, h40]
  exact .some rfl
 have hlen : ¬ (its.length : Int) > 40 := by omega
 have hB : chkBat hs its = chkB hs its := by simp only [chkBat, h40, if_false]
 rw [hB]
 simp only [hlen, decide_false, dIf_bool, Bool.false_eq_true, if_false]
 generalize hV : chkB hs its = V
 refine Wp.loop (fun k ds g => g = h ∧ ∃ a1 a2 a3 a4 a5 a6 a7, ∃ n : Nat, ds = [a1, a2, a3, .int .i64 n, a4, a5, a6, a7] ∧ k + n = its.length ∧ chkB hs (its.drop n) = V)
  (fun r => r.2.2 = h ∧ ((r.1 = .ext 0 ∧ V = 0) ∨ (r.1 = .ret ∧ nth 0 r.2.1 = .int .i64 V))) its.length ⟨rfl, _, _, _, _, _, _, _, 0, rfl, rfl, hV⟩ ?_ ?_
 ·rintro k ds g ⟨rfl, a1, a2, a3, a4, a5, a6, a7, n, rfl, hk, hch⟩
  simp only [F1094_L0, nth_zero, nth_succ, bs, Option.bind_assoc, dBin_lss]
  refine Wp.dif ?_ ?_
  ·intro h0
   have h0 : n < its.length := by have : (n : Int) < its.length := by simpa using h0
                                  omega
   obtain ⟨i, hi⟩ : ∃ i, its[n]? = some i := ⟨_, List.getElem?_eq_getElem h0⟩
   have hw : IntKind.wrap .i64 ((n : Int) + 1) = ((n + 1 : Nat) : Int) := by
    rw [wrap_i64 (by omega) (by omega)]; omega
   obtain ⟨q, hii, hq⟩ := rdI_ix hd n i hi
   have hck := s1042w i g
   have q0 : dFieldAddr tab ty31 0 (.fptr (evr i.e)) = some (.fptr (evr i.e)) := id rfl
   have q1 : dLoad tab g ty3 (.fptr (evr i.e)) = some (.int .i64 i.e.a0) := id rfl
   rw [drop_cons hi] at hch
   unfold chkB at hch
   simp only [hii, hq, ldIt, boxIt, hck, bs, dBin_neq]
   by_cases c1 : itE i = 0
   case neg =>
    rw [if_pos c1] at hch
    simp only [c1, ne_eq, not_false_eq_true, decide_true, dIf_bool, if_true]
    exact .some (.inr ⟨by simp, rfl, .inr ⟨rfl, by rw [← hch]; rfl⟩⟩)
   rw [if_neg (fun hh => hh c1)] at hch
   simp only [c1, ne_eq, not_true, decide_false, dIf_bool, Bool.false_eq_true, if_false, itF1, q0, q1, bx0, bxl, bs, dBin_neq]
   by_cases c2 : i.e.a0 = hs
   case neg =>
    rw [if_pos c2] at hch
    simp only [c2, not_false_eq_true, decide_true, dIf_bool, if_true]
    exact .some (.inr ⟨by simp, rfl, .inr ⟨rfl, by rw [← hch]; rfl⟩⟩)
   rw [if_neg (fun hh => hh c2)] at hch
   simp only [c2, not_true, decide_false, dIf_bool, Bool.false_eq_true, if_false, itF0, itL0, dBin_seql, bs]
   by_cases c3 : i.r = [42]
   ·rw [if_pos c3] at hch
    have c3' : (i.r == ([42] : Str)) = true := by simpa using c3
    simp only [c3', dIf_bool, if_true]
    exact .some (.inr ⟨by simp, rfl, .inr ⟨rfl, by rw [← hch]; rfl⟩⟩)
   ·rw [if_neg c3] at hch
    have c3' : (i.r == ([42] : Str)) = false := by simpa using c3
    simp only [c3', dIf_bool, Bool.false_eq_true, if_false, dBin_add, hw, bs]
    exact .some (.inl ⟨rfl, k - 1, by omega, rfl, _, _, _, _, _, _, _, n + 1, rfl, by omega, hch⟩)
  ·intro h0
   have h0 : its.length ≤ n := by have : ¬ (n : Int) < its.length := by simpa using h0
                                  omega
   rw [List.drop_of_length_le h0] at hch
   exact .some (.inr ⟨by simp, rfl, .inl ⟨rfl, hch.symm⟩⟩)
 ·rintro ⟨ex, ds, g⟩ ⟨q2, q1⟩
  simp only at q1 q2
  subst q2
  rcases q1 with ⟨rfl, rfl⟩ | ⟨rfl, hv⟩
  ·simp only [unblk_self, toEnd_nrm, bs, mkRes_one]
   exact .some rfl
  ·simp only [unblk_ret, toEnd_ret, exEnd_ret, nth_zero, bs, hv, mkRes_one]
   exact .some rfl
theorem s1113w (hs nu : Int) (its : List It) (d : D) (h : Hp) (hd : RdI h its d) (hnm : ∀ i ∈ its, NmB i.e) : R fn1113 [.agg (batx hs nu d)] h = some (.int .i64 (chkBat hs its), h) := by
 suffices Wp (R fn1113 [.agg (batx hs nu d)] h) (fun p => p = (.int .i64 (chkBat hs its), h)) by
  obtain ⟨p, h1, rfl⟩ := this
  exact h1
 rw [e1113]
 simp only [F1113, pBoxF_agg, bx2, ld113, rdI_len hd, bs, Option.bind_assoc, dBin_gtr]
 by_cases h40 : 40 < its.length
 ·have hlen : (its.length : Int) > 40 := by omega
  simp only [hlen, decide_true, dIf_bool, if_true, mkRes_one, chkBat, h40]
  exact .some rfl
 have hlen : ¬ (its.length : Int) > 40 := by omega
 have hB : chkBat hs its = chkB hs its := by simp only [chkBat, h40, if_false]
 rw [hB]
 simp only [hlen, decide_false, dIf_bool, Bool.false_eq_true, if_false]
 generalize hV : chkB hs its = V
 refine Wp.loop (fun k ds g => g = h ∧ ∃ a1 a3 a4 a5 a6 a7 a8, ∃ n : Nat, ds = [a1, .int .i64 n, a3, a4, a5, a6, a7, a8] ∧ k + n = its.length ∧ chkB hs (its.drop n) = V)
  (fun r => r.2.2 = h ∧ ((r.1 = .ext 0 ∧ V = 0) ∨ (r.1 = .ret ∧ nth 0 r.2.1 = .int .i64 V))) its.length ⟨rfl, _, _, _, _, _, _, _, 0, rfl, rfl, hV⟩ ?_ ?_
 ·rintro k ds g ⟨rfl, a1, a3, a4, a5, a6, a7, a8, n, rfl, hk, hch⟩
  simp only [F1113_L0, nth_zero, nth_succ, bs, Option.bind_assoc, bx2, ld113, rdI_len hd, dBin_lss]
  refine Wp.dif ?_ ?_
  ·intro h0
   have h0 : n < its.length := by have : (n : Int) < its.length := by simpa using h0
                                  omega
   obtain ⟨i, hi⟩ : ∃ i, its[n]? = some i := ⟨_, List.getElem?_eq_getElem h0⟩
   have hw : IntKind.wrap .i64 ((n : Int) + 1) = ((n + 1 : Nat) : Int) := by
    rw [wrap_i64 (by omega) (by omega)]; omega
   obtain ⟨q, hii, hq⟩ := rdI_ix hd n i hi
   have hck := s1004g i g (hnm i (List.mem_of_getElem? hi))
   have q0 : dFieldAddr tab ty31 0 (.fptr (evr i.e)) = some (.fptr (evr i.e)) := id rfl
   have q1 : dLoad tab g ty3 (.fptr (evr i.e)) = some (.int .i64 i.e.a0) := id rfl
   rw [drop_cons hi] at hch
   unfold chkB at hch
   simp only [hii, hq, ldIt, boxIt, hck, bs, dBin_neq]
   by_cases c1 : itE i = 0
   case neg =>
    rw [if_pos c1] at hch
    simp only [c1, ne_eq, not_false_eq_true, decide_true, dIf_bool, if_true]
    exact .some (.inr ⟨by simp, rfl, .inr ⟨rfl, by rw [← hch]; rfl⟩⟩)
   rw [if_neg (fun hh => hh c1)] at hch
   simp only [c1, ne_eq, not_true, decide_false, dIf_bool, Bool.false_eq_true, if_false, itF1, q0, q1, bx0, bxl, bs, dBin_neq]
   by_cases c2 : i.e.a0 = hs
   case neg =>
    rw [if_pos c2] at hch
    simp only [c2, not_false_eq_true, decide_true, dIf_bool, if_true]
    exact .some (.inr ⟨by simp, rfl, .inr ⟨rfl, by rw [← hch]; rfl⟩⟩)
   rw [if_neg (fun hh => hh c2)] at hch
   simp only [c2, not_true, decide_false, dIf_bool, Bool.false_eq_true, if_false, itF0, itL0, dBin_seql, bs]
   by_cases c3 : i.r = [42]
   ·rw [if_pos c3] at hch
    have c3' : (i.r == ([42] : Str)) = true := by simpa using c3
    simp only [c3', dIf_bool, if_true]
    exact .some (.inr ⟨by simp, rfl, .inr ⟨rfl, by rw [← hch]; rfl⟩⟩)
   ·rw [if_neg c3] at hch
    have c3' : (i.r == ([42] : Str)) = false := by simpa using c3
    simp only [c3', dIf_bool, Bool.false_eq_true, if_false, dBin_add, hw, bs]
    exact .some (.inl ⟨rfl, k - 1, by omega, rfl, _, _, _, _, _, _, _, n + 1, rfl, by omega, hch⟩)
  ·intro h0
   have h0 : its.length ≤ n := by have : ¬ (n : Int) < its.length := by simpa using h0
                                  omega
   rw [List.drop_of_length_le h0] at hch
   exact .some (.inr ⟨by simp, rfl, .inl ⟨rfl, hch.symm⟩⟩)
 ·rintro ⟨ex, ds, g⟩ ⟨q2, q1⟩
  simp only at q1 q2
  subst q2
  rcases q1 with ⟨rfl, rfl⟩ | ⟨rfl, hv⟩
  ·simp only [unblk_self, toEnd_nrm, bs, mkRes_one]
   exact .some rfl
  ·simp only [unblk_ret, toEnd_ret, exEnd_ret, nth_zero, bs, hv, mkRes_one]
   exact .some rfl
theorem bat_x (b : Bat) : batr b = batx b.hs b.nu b.d := rfl
theorem s1208 (b : Bat) (h : Hp) (hl : b.its.length ≤ 9223372036854775807) : ∃ v : Bool, R fn1208 [.agg (batr b)] h = some (.bool v, h) := by
 suffices Wp (R fn1208 [.agg (batr b)] h) (fun p => p.2 = h ∧ ∃ v : Bool, p.1 = .bool v) by
  obtain ⟨⟨x, h'⟩, h1, rfl, v, rfl⟩ := this
  exact ⟨v, h1⟩
 rw [e1208, bat_x]
 simp only [F1208, pBoxF_agg, bx2, ld113, lens113 b.hd, bs, Option.bind_assoc]
 refine Wp.loop (fun k ds g => g = h ∧ ∃ a c, ∃ n : Nat, ds = [.int .i64 a, .int .i64 n, c] ∧ n ≤ b.its.length ∧ k + n = b.its.length) (fun r => r.1 = .ext 0 ∧ r.2.2 = h ∧ ∃ a c e, r.2.1 = [.int .i64 a, c, e]) b.its.length ⟨rfl, _, _, 0, rfl, by omega, rfl⟩ ?_ ?_
 ·rintro k ds g ⟨rfl, a, c, n, rfl, hn, hk⟩
  simp only [F1208_L0, nth_zero, nth_succ, bs, Option.bind_assoc, bx2, ld113, lens113 b.hd, dBin_lss]
  by_cases h0 : (n : Int) < (b.its.length : Int)
  case neg =>
   simp only [h0, decide_false, gd_bool, reduceCtorEq, Bool.false_eq_true, if_false, bs, dPick_bool, dIf_bool]
   exact .some (.inr ⟨by simp, rfl, rfl, _, _, _, rfl⟩)
  by_cases h1 : a ≤ 300
  case neg =>
   simp only [h0, h1, decide_true, decide_false, gd_bool, if_true, bs, dBin_leq, dPick_bool, dIf_bool, Bool.false_eq_true, if_false]
   exact .some (.inr ⟨by simp, rfl, rfl, _, _, _, rfl⟩)
  obtain ⟨i, hi⟩ : ∃ i, b.its[n]? = some i := ⟨_, List.getElem?_eq_getElem (by omega)⟩
  have hw : IntKind.wrap .i64 ((n : Int) + 1) = ((n + 1 : Nat) : Int) := by rw [wrap_i64 (by omega) (by omega)]; omega
  have hix : dIndexAddr tab ty113 b.d (.int .i64 n) = some (.fptr (itr i)) := by rw [ixs113 b.hd]; simp [-bind_some, hi]
  have q4 : dFieldAddr tab ty31 4 (.fptr (evr i.e)) = some (.fptr [i.e.ld, .int .i64 i.e.a5, .int .i64 i.e.a6, .str i.e.s7, .str i.e.s8, i.e.fd]) := id rfl
  have q9 : dFieldAddr tab ty31 9 (.fptr (evr i.e)) = some (.fptr [i.e.fd]) := id rfl
  have k9 : dLoad tab g ty29 (.fptr [i.e.fd]) = some i.e.fd := id rfl
  simp only [h0, h1, decide_true, gd_bool, if_true, bs, dBin_leq, dPick_bool, dIf_bool, hix, itF1, q4, q9, ld28, k9, lens28 i.e.hld, lens29 i.e.hfd, dBin_add, hw]
  exact .some (.inl ⟨rfl, k - 1, by omega, rfl, _, _, n + 1, rfl, by omega, by omega⟩)
 ·rintro ⟨ex, ds, g⟩ ⟨rfl, q2, a, c, e, rfl⟩
  simp only at q2
  subst q2
  simp only [unblk_self, toEnd_nrm, bs, nth_zero, nth_succ, dBin_leq, mkRes_one]
  exact .some ⟨rfl, _, rfl⟩
theorem bit_nm {hst : Int} {i : It} (h : BIt hst i) : NmB i.e := by
 intro p hp
 rcases h.good with ⟨_, hg⟩ | hg
 ·have := (hg.fn p hp).2
  omega
 ·rw [hg.fs] at hp; cases hp
theorem sameE_q {a b : Ev} (h : EvQ a b) : sameE a b = true := by
 obtain ⟨h0, h1, h2, h3, h4, h5, h6, h7, h8, h9⟩ := h
 simp [-bind_some, sameE, h0, h1, h2, h3, h4, h5, h6, h7, h8, h9]
theorem EvQ.symm {a b : Ev} (h : EvQ a b) : EvQ b a := ⟨h.a0.symm, h.a1.symm, h.a2.symm, h.a3.symm, h.a5.symm, h.a6.symm, h.s7.symm, h.s8.symm, h.ls.symm, h.fs.symm⟩
theorem EvQ.trans {a b c : Ev} (h : EvQ a b) (k : EvQ b c) : EvQ a c := ⟨h.a0.trans k.a0, h.a1.trans k.a1, h.a2.trans k.a2, h.a3.trans k.a3, h.a5.trans k.a5, h.a6.trans k.a6, h.s7.trans k.s7, h.s8.trans k.s8, h.ls.trans k.ls, h.fs.trans k.fs⟩
def EvsE : List Ev → List Ev → Prop
 | [], [] => True
 | a :: l, b :: r => EvQ a b ∧ EvsE l r
 | _, _ => False
theorem EvsE.len : ∀ {l r : List Ev}, EvsE l r → l.length = r.length
 | [], [], _ => rfl
 | _ :: _, _ :: _, h => by simp [-bind_some, h.2.len]
 | [], _ :: _, h => h.elim
 | _ :: _, [], h => h.elim
theorem EvsE.get : ∀ {l r : List Ev}, EvsE l r → ∀ (i : Nat) (a b : Ev), l[i]? = some a → r[i]? = some b → EvQ a b
 | a :: l, b :: r, h, 0, x, y, hx, hy => by
  simp at hx hy; subst hx; subst hy; exact h.1
 | a :: l, b :: r, h, i + 1, x, y, hx, hy => h.2.get i x y (by simpa using hx) (by simpa using hy)
 | [], [], _, i, x, y, hx, _ => by simp at hx
 | [], _ :: _, h, _, _, _, _, _ => h.elim
 | _ :: _, [], h, _, _, _, _, _ => h.elim
theorem EvsE.app : ∀ {l r l' r' : List Ev}, EvsE l r → EvsE l' r' → EvsE (l ++ l') (r ++ r')
 | [], [], _, _, _, k => k
 | _ :: _, _ :: _, _, _, h, k => ⟨h.1, h.2.app k⟩
 | [], _ :: _, _, _, h, _ => h.elim
 | _ :: _, [], _, _, h, _ => h.elim
theorem s29q (l r : List Ev) (da db : D) (h : Hp) (ha : SlOf 10 evr l da) (hb : SlOf 10 evr r db) (hq : EvsE l r) (hl : l.length ≤ 1000000) : R fn29 [da, db] h = some (.bool true, h) := by
 suffices Wp (R fn29 [da, db] h) (fun p => p = (.bool true, h)) by
  obtain ⟨p, h1, rfl⟩ := this
  exact h1
 have hlr := hq.len
 have hlr' : (r.length : Int) = (l.length : Int) := by omega
 rw [e29]
 simp only [F29, bs, Option.bind_assoc, lens40 ha, lens40 hb, hlr', dBin_neq, ne_eq, not_true, decide_false, dIf_bool, Bool.false_eq_true, if_false]
 refine Wp.loop (fun n ds g => g = h ∧ ∃ x y z, ∃ i : Nat, ds = [x, .int .i64 i, y, z] ∧ n + i = l.length)
  (fun r => r.1 = .ext 0 ∧ r.2.2 = h) l.length ⟨rfl, _, _, _, 0, rfl, rfl⟩ ?_ ?_
 ·rintro n ds g ⟨rfl, x, y, z, i, rfl, hi⟩
  simp only [F29_L0, nth_zero, nth_succ, bs, Option.bind_assoc, lens40 ha, dBin_lss]
  refine Wp.dif ?_ ?_
  ·intro h0
   have h0 : i < l.length := by have : (i : Int) < l.length := by simpa using h0
                                omega
   obtain ⟨u, hu⟩ : ∃ u, l[i]? = some u := ⟨_, List.getElem?_eq_getElem h0⟩
   obtain ⟨v, hv⟩ : ∃ v, r[i]? = some v := ⟨_, List.getElem?_eq_getElem (by omega)⟩
   have huv := sameE_q (hq.get i u v hu hv)
   have ia : dIndexAddr tab ty40 da (.int .i64 i) = some (.fptr (evr u)) := by rw [ixs40 ha]; simp [-bind_some, hu]
   have ib : dIndexAddr tab ty40 db (.int .i64 i) = some (.fptr (evr v)) := by rw [ixs40 hb]; simp [-bind_some, hv]
   have hw : IntKind.wrap .i64 ((i : Int) + 1) = ((i + 1 : Nat) : Int) := by
    rw [wrap_i64 (by omega) (by omega)]; omega
   simp only [ia, ib, evL, s61, huv, bs, dUn_not, Bool.not_true, dIf_bool, Bool.false_eq_true, if_false, dBin_add, hw]
   exact .some (.inl ⟨rfl, n - 1, by omega, rfl, _, _, _, i + 1, rfl, by omega⟩)
  ·intro _
   exact .some (.inr ⟨by simp, rfl, rfl⟩)
 ·rintro ⟨ex, ds, g⟩ ⟨q1, q2⟩
  simp only at q1 q2
  subst q1; subst q2
  simp only [unblk_self, toEnd_nrm, bs, mkRes_one]
  exact .some rfl
theorem apE_det : ∀ (its : List It) (ms : List Mrk) (ts : List Tal) (es es' : List Ev), apS ms ts its ≠ none → apE ms its es → apE ms its es' → EvsE es es'
 | [], ms, ts, es, es', _, h, k => by
  simp only [apE] at h k
  subst h; subst k
  trivial
 | i :: r, ms, ts, es, es', hn, h, k => by
  rw [apS_cons] at hn
  unfold apE at h k
  split at h
  ·rename_i ho; rw [ho] at hn; exact absurd rfl hn
  ·rename_i ho
   rw [ho] at hn k
   exact apE_det r ms _ es es' hn h k
  ·rename_i kk ho
   rw [ho] at hn k
   obtain ⟨j, hj, h⟩ := h
   obtain ⟨j', hj', k⟩ := k
   have hjj : EvQ j.e j'.e := ⟨hj.a0.trans hj'.a0.symm, hj.a1.trans hj'.a1.symm, hj.a2.trans hj'.a2.symm, hj.a3.trans hj'.a3.symm, hj.a5.trans hj'.a5.symm, hj.a6.trans hj'.a6.symm, hj.s7.trans hj'.s7.symm, hj.s8.trans hj'.s8.symm, hj.ls.trans hj'.ls.symm, hj.fs.trans hj'.fs.symm⟩
   split at h
   ·rename_i hr
    rw [if_pos hr] at k
    obtain ⟨e, es0, rfl, he, h⟩ := h
    obtain ⟨e', es1, rfl, he', k⟩ := k
    exact ⟨he.trans (hjj.trans he'.symm), apE_det r _ _ es0 es1 hn h k⟩
   ·rename_i hr
    rw [if_neg hr] at k
    exact apE_det r _ _ es es' hn h k
theorem s1210 (l : List Mrk) (d : D) (m : Mrk) (h : Hp) (hd : SlOf 3 mrkr l d) (hl : l.length ≤ 1000000) : ∃ d', R fn1210 [d, .agg (mrkr m)] h = some (d', h) ∧ SlOf 3 mrkr (setM l m) d' := by
 suffices Wp (R fn1210 [d, .agg (mrkr m)] h) (fun p => p.2 = h ∧ SlOf 3 mrkr (setM l m) p.1) by
  obtain ⟨⟨x, h'⟩, h1, rfl, h2⟩ := this
  exact ⟨x, h1, h2⟩
 have h84 := s1084 l d m.h m.f h hd hl
 have hk : kM ⟨m.h, m.f, 0⟩ l = kM m l := kM_key ⟨m.h, m.f, 0⟩ m rfl rfl l
 have hfk : fndM l ⟨m.h, m.f, 0⟩ = fndM l m := by
  have := fnd0 l m.h m.f m.o
  unfold fndM at this ⊢
  exact this
 have q0 : dFieldAddr tab ty1006 0 (.fptr (mrkr m)) = some (.fptr (mrkr m)) := id rfl
 have q1 : dFieldAddr tab ty1006 1 (.fptr (mrkr m)) = some (.fptr [.int .i64 m.f, .int .i64 m.o]) := id rfl
 have k0 : dLoad tab h ty3 (.fptr (mrkr m)) = some (.int .i64 m.h) := id rfl
 have km : ∀ g : Hp, dLoad tab g ty1006 (.fptr (mrkr m)) = some (.agg (mrkr m)) := fun g => id rfl
 have hb : pLitF tab ty1007 1 [0] [.agg (mrkr m)] = some (.sl 3 true [mrkr m]) := id rfl
 have hkl := kM_le ⟨m.h, m.f, 0⟩ l
 rw [hk] at h84 hkl
 rw [hfk] at h84
 obtain ⟨d1, e1, sl1⟩ := slh1007 hd (k := .i64) (n := (kM m l : Int)) (by omega) (by omega)
 rw [Int.toNat_natCast] at sl1
 rw [e1210]
 simp only [F1210, pBoxF_agg, bs, q0, q1, k0, ld3, h84, dExtract_tup, List.getElem?_cons_zero, List.getElem?_cons_succ, e1, Option.bind_assoc]
 have hlt := List.length_take_le (kM m l) l
 have hl2 : (l.take (kM m l)).length ≤ 1000000 := by omega
 refine wap1007 (n0 := h.length) (rows := []) (Nat.le_refl _) (.nils _ _ _ _) (slof_rows _ sl1) (by simp only [List.length_map, List.length_nil]; omega) fun x2 g2 o2 l2 k2 _ _ => ?_
 rw [List.nil_append] at o2
 simp only [bs, km, hb]
 refine wap1007 (n0 := h.length) l2 o2 (rowsOf_sl _ _ _ _) (by simp only [List.length_map, List.length_cons, List.length_nil]; omega) fun x3 g3 o3 l3 k3 _ _ => ?_
 simp only [bs]
 have fin : ∀ n : Nat, n ≤ l.length → (l.take (kM m l) ++ [m] ++ l.drop n) = setM l m → Wp ((dSliceAt tab ty1007 true false false [d, .int .i64 (n : Int)]).bind fun t31 => (dAppend tab g3 ty1007 ty1007 x3 t31).bind fun p32 => scope h p32.2 (mkRes [p32.1])) fun p => p.2 = h ∧ SlOf 3 mrkr (setM l m) p.1 := by
  intro n hn he
  obtain ⟨d4, e4, sl4⟩ := sll1007 hd (k := .i64) (n := (n : Int)) (by omega) (by omega)
  rw [Int.toNat_natCast] at sl4
  simp only [e4, bs]
  have hdl : (l.drop n).length ≤ 1000000 := by simp; omega
  refine wap1007 (n0 := h.length) (by omega) o3 (slof_rows _ sl4) (by simp only [List.length_map, List.length_append, List.length_cons, List.length_nil]; omega) fun x5 g5 o5 l5 k5 _ _ => ?_
  have hr : (l.take (kM m l)).map mrkr ++ [mrkr m] ++ (l.drop n).map mrkr = (setM l m).map mrkr := by rw [← he]; simp [-bind_some]
  rw [hr] at o5
  have sl := own_sl (n0 := h.length) (n := 3) o5 (Nat.le_refl _) fun a _ => mrkr_frz _ g5 _ a
  simp only [bs, mkRes_one]
  rw [scope_eq (d' := frz h.length g5 4 x5) rfl (slof_ok sl fun a _ => mrkr_ok _ a) (by omega) (fun q hq => by rw [k5 q hq, k3 q hq, k2 q hq])]
  exact .some ⟨rfl, sl⟩
 by_cases hf : fndM l m = true
 ·have hlt : kM m l < l.length := by
    unfold fndM at hf
    cases hg : l[kM m l]? with
    | none => rw [hg] at hf; cases hf
    | some x => exact (List.getElem?_eq_some_iff.1 hg).1
  have hw : IntKind.wrap .i64 ((kM m l : Int) + 1) = ((kM m l + 1 : Nat) : Int) := by rw [wrap_i64 (by omega) (by omega)]; omega
  simp only [hf, dIf_bool, if_true, dBin_add, hw, bs, toEnd_nrm, nth_zero]
  refine fin _ (by omega) ?_
  unfold setM
  rw [if_pos hf, List.set_eq_take_append_cons_drop, if_pos hlt]
  simp [-bind_some]
 ·have hf' : fndM l m = false := by simpa using hf
  simp only [hf', dIf_bool, Bool.false_eq_true, if_false, bs, toEnd_nrm, nth_zero]
  refine fin _ (by omega) ?_
  unfold setM
  rw [if_neg hf]
theorem lines_head {e : Ev} {m : Int} (h9 : linesE e m ≠ 9) (h4 : linesE e m ≠ 4) (h19 : linesE e m ≠ 19) : e.ls.length ≤ 40 ∧ ∃ x r, e.ls = x :: r ∧ x.off = e.a2 := by
 unfold linesE at h9 h4 h19
 by_cases h0 : e.ls.length = 0
 ·rw [if_pos h0] at h9; exact absurd rfl h9
 rw [if_neg h0] at h4 h19
 by_cases h1 : 40 < e.ls.length
 ·rw [if_pos h1] at h4; exact absurd rfl h4
 rw [if_neg h1] at h19
 refine ⟨by omega, ?_⟩
 cases hl : e.ls with
 | nil => rw [hl] at h0; exact absurd rfl h0
 | cons x r =>
  refine ⟨x, r, rfl, ?_⟩
  rw [hl] at h19
  unfold lnE at h19
  split at h19
  ·rename_i hh; exact hh.1
  ·exact absurd rfl h19
theorem itv {i : It} (h : itE i = 0) : i.e.ls.length ≤ 40 ∧ i.e.fs.length ≤ 32 ∧ ∃ x r, i.e.ls = x :: r ∧ x.off = i.e.a2 := by
 unfold itE at h
 by_cases hr : i.r = []
 ·rw [if_pos hr] at h
  unfold evE at h
  split at h
  ·cases h
  split at h
  ·cases h
  split at h
  ·rename_i hh; exact absurd h hh
  rename_i hl
  have hl : linesE i.e 2000 = 0 := Decidable.not_not.1 hl
  obtain ⟨a, b⟩ := lines_head (e := i.e) (m := 2000) (by rw [hl]; decide) (by rw [hl]; decide) (by rw [hl]; decide)
  refine ⟨a, ?_, b⟩
  split at h
  ·cases h
  split at h
  ·rename_i hh; exact absurd h hh
  rename_i hs
  by_cases h32 : 32 < i.e.fs.length
  ·have : (sortF i.e.fs).1 = 4 := by simp only [sortF, h32, if_true]
   exact absurd this (by rw [Decidable.not_not.1 hs]; decide)
  ·omega
 ·rw [if_neg hr] at h
  split at h
  ·cases h
  split at h
  ·cases h
  split at h
  ·rename_i hh
   rcases hh with hh | hh | hh <;> rw [hh] at h <;> cases h
  rename_i hl
  obtain ⟨a, b⟩ := lines_head (e := i.e) (m := 60000) (fun x => hl (.inl x)) (fun x => hl (.inr (.inl x))) (fun x => hl (.inr (.inr x)))
  refine ⟨a, ?_, b⟩
  split at h
  ·cases h
  ·rename_i hh
   have : i.e.fs.length = 0 := by
    by_cases h0 : i.e.fs.length = 0
    ·exact h0
    ·exact absurd (.inr (.inr (.inr (.inr (.inl h0))))) hh
   omega
theorem chkB_all {hs : Int} : ∀ {its : List It}, chkB hs its = 0 → ∀ i ∈ its, itE i = 0 ∧ i.e.a0 = hs ∧ i.r ≠ [42]
 | [], _, i, hi => by cases hi
 | x :: r, h, i, hi => by
  unfold chkB at h
  split at h
  ·rename_i hh; exact absurd h hh
  rename_i h1
  split at h
  ·cases h
  rename_i h2
  split at h
  ·cases h
  rename_i h3
  rcases List.mem_cons.1 hi with rfl | hi
  ·exact ⟨Decidable.not_not.1 h1, Decidable.not_not.1 h2, h3⟩
  ·exact chkB_all h i hi
theorem chkBat_all {hs : Int} {its : List It} (h : chkBat hs its = 0) : its.length ≤ 40 ∧ ∀ i ∈ its, itE i = 0 ∧ i.e.a0 = hs ∧ i.r ≠ [42] := by
 unfold chkBat at h
 split at h
 ·cases h
 ·exact ⟨by omega, chkB_all h⟩
theorem addT_0 (ts : List Tal) (h : Int) (r : Str) : addT ts h r ((0 : Nat) : Int) = ts := by
 unfold addT
 rw [if_pos (by omega)]
structure RfI (h g : Hp) (ms : List Mrk) (ts : List Tal) (es : List Ev) (dm dt out : D) : Prop where
 len : h.length + 2 ≤ g.length
 p4 : g[h.length]? = some (.row ty1009 2 [[.nils, .nils]])
 p8 : g[h.length + 1]? = some (.row ty1009 2 [[dm, dt]])
 m : SlOf 3 mrkr ms dm
 t : SlOf 3 talr ts dt
 ow : Own g (h.length + 2) ty31 10 (es.map evr) out
 low : ∀ q, q < h.length → g[q]? = h[q]?
theorem RfI.new {h g g' : Hp} {ms : List Mrk} {ts : List Tal} {es : List Ev} {dm dt out : D} (S : RfI h g ms ts es dm dt out) (hl : g.length ≤ g'.length) (hk : ∀ q, q < g.length → g'[q]? = g[q]?) : RfI h g' ms ts es dm dt out := by
 have := S.len
 exact ⟨by omega, by rw [hk _ (by omega)]; exact S.p4, by rw [hk _ (by omega)]; exact S.p8, S.m, S.t, S.ow.keep fun q _ hin => hk q (S.ow.lt hin).2, fun q hq => by rw [hk _ (by omega)]; exact S.low q hq⟩
theorem RfI.z {h g g' : Hp} {ms : List Mrk} {ts : List Tal} {es : List Ev} {dm dt out : D} (S : RfI h g ms ts es dm dt out) {z : Nat} {row : List D} (hz : g[z]? = some (.row ty74 11 [row])) (hzl : h.length ≤ z) (s : Same z g g') : RfI h g' ms ts es dm dt out := by
 have n4 : h.length ≠ z := row_ne S.p4 hz (by decide)
 have n8 : h.length + 1 ≠ z := row_ne S.p8 hz (by decide)
 have hlen := S.len
 exact ⟨by rw [s.1]; exact hlen, by rw [s.2 _ n4]; exact S.p4, by rw [s.2 _ n8]; exact S.p8, S.m, S.t, S.ow.keep fun q _ hin => s.2 q fun hh => own_ne S.ow hz (by decide) (hh ▸ hin), fun q hq => by rw [s.2 _ (by omega)]; exact S.low q hq⟩
theorem in_set (dm dt v : D) (k : Nat) (hv : v.one = true) (hk : k < 2) : ([[dm, dt]].set 0 (spl [dm, dt] (0 + k) (cells1 v))) = [[dm, dt].set k v] := by
 rw [Nat.zero_add, set_spl _ _ _ hv (by simp; omega)]; rfl
theorem RfI.tal {h g : Hp} {ms : List Mrk} {ts : List Tal} {es : List Ev} {dm dt out : D} (S : RfI h g ms ts es dm dt out) {ts' : List Tal} {dt' : D} (ht : SlOf 3 talr ts' dt') {z : Nat} {row : List D} (hz : g[z]? = some (.row ty74 11 [row])) {β : Type} {f : Hp → Option β} {Q : β → Prop}
  (k : ∀ g', RfI h g' ms ts' es dm dt' out → g'[z]? = some (.row ty74 11 [row]) → g'.length = g.length → Wp (f g') Q) : Wp ((dStore tab g ty58 (.ptr (h.length + 1) 0 (0 + 1)) dt').bind f) Q := by
 have o1 := slof_one ht
 have hlen := S.len
 have n8 : h.length + 1 ≠ z := row_ne S.p8 hz (by decide)
 refine wst58 (kk := 0) (off := 0 + 1) (row := [dm, dt]) (v := dt') S.p8 (by rfl) (by rw [(one_cells o1).1]; rfl) (by simp) (one_cells o1).2 fun g' p' s' => ?_
 rw [in_set _ _ _ _ o1 (by omega)] at p'
 exact k g' ⟨by rw [s'.1]; exact hlen, by rw [s'.2 _ (by omega)]; exact S.p4, p', S.m, ht, S.ow.keep fun q hq _ => s'.2 q (by omega), fun q hq => by rw [s'.2 _ (by omega)]; exact S.low q hq⟩ (by rw [s'.2 _ (Ne.symm n8)]; exact hz) s'.1
theorem RfI.mrk {h g : Hp} {ms : List Mrk} {ts : List Tal} {es : List Ev} {dm dt out : D} (S : RfI h g ms ts es dm dt out) {ms' : List Mrk} {dm' : D} (ht : SlOf 3 mrkr ms' dm') {z : Nat} {row : List D} (hz : g[z]? = some (.row ty74 11 [row])) {β : Type} {f : Hp → Option β} {Q : β → Prop}
  (k : ∀ g', RfI h g' ms' ts es dm' dt out → g'[z]? = some (.row ty74 11 [row]) → g'.length = g.length → Wp (f g') Q) : Wp ((dStore tab g ty1007 (.ptr (h.length + 1) 0 (0 + 0)) dm').bind f) Q := by
 have o1 := slof_one ht
 have hlen := S.len
 have n8 : h.length + 1 ≠ z := row_ne S.p8 hz (by decide)
 refine wst1007 (kk := 0) (off := 0 + 0) (row := [dm, dt]) (v := dm') S.p8 (by rfl) (by rw [(one_cells o1).1]; rfl) (by simp) (one_cells o1).2 fun g' p' s' => ?_
 rw [in_set _ _ _ _ o1 (by omega)] at p'
 exact k g' ⟨by rw [s'.1]; exact hlen, by rw [s'.2 _ (by omega)]; exact S.p4, p', ht, S.t, S.ow.keep fun q hq _ => s'.2 q (by omega), fun q hq => by rw [s'.2 _ (by omega)]; exact S.low q hq⟩ (by rw [s'.2 _ (Ne.symm n8)]; exact hz) s'.1
theorem RfI.l0 {h g : Hp} {ms : List Mrk} {ts : List Tal} {es : List Ev} {dm dt out : D} (S : RfI h g ms ts es dm dt out) : dLoad tab g ty1007 (.ptr (h.length + 1) 0 (0 + 0)) = some dm := by rw [ldp1007, row_of S.p8]; rfl
theorem RfI.l1 {h g : Hp} {ms : List Mrk} {ts : List Tal} {es : List Ev} {dm dt out : D} (S : RfI h g ms ts es dm dt out) : dLoad tab g ty58 (.ptr (h.length + 1) 0 (0 + 1)) = some dt := by rw [ldp58, row_of S.p8]; rfl
theorem RfI.la {h g : Hp} {ms : List Mrk} {ts : List Tal} {es : List Ev} {dm dt out : D} (S : RfI h g ms ts es dm dt out) : dLoad tab g ty1009 (.ptr (h.length + 1) 0 0) = some (.agg [dm, dt]) := by rw [ldp1009, row_of S.p8]; rfl
structure ItV (g : Hp) (z : Nat) (i : It) : Prop where
 a0 : dLoad tab g ty3 (.ptr z 0 (0 + 1 + 0)) = some (.int .i64 i.e.a0)
 a1 : dLoad tab g ty3 (.ptr z 0 (0 + 1 + 1)) = some (.int .i64 i.e.a1)
 a2 : dLoad tab g ty3 (.ptr z 0 (0 + 1 + 2)) = some (.int .i64 i.e.a2)
 a3 : dLoad tab g ty3 (.ptr z 0 (0 + 1 + 3)) = some (.int .i64 i.e.a3)
 ls : dLoad tab g ty28 (.ptr z 0 (0 + 1 + 4)) = some i.e.ld
 r : dLoad tab g ty9 (.ptr z 0 (0 + 0)) = some (.str i.r)
 e : dLoad tab g ty31 (.ptr z 0 (0 + 1)) = some (.agg (evr i.e))
 i : dLoad tab g ty74 (.ptr z 0 0) = some (.agg (itr i))
theorem itv_of {g : Hp} {z : Nat} {i : It} (hz : g[z]? = some (.row ty74 11 [itr i])) : ItV g z i := by
 have hr : g.row z 0 = some (itr i) := by rw [row_of hz]; rfl
 exact ⟨by rw [ldp3, hr]; rfl, by rw [ldp3, hr]; rfl, by rw [ldp3, hr]; rfl, by rw [ldp3, hr]; rfl, by rw [ldp28, hr]; rfl, by rw [ldp9, hr]; rfl, by rw [ldp31, hr]; rfl, by rw [ldp74, hr]; rfl⟩
theorem s1209g {b : Bat} (hck : chkBat b.hs b.its = 0) (hnm : ∀ i ∈ b.its, NmB i.e) {ms : List Mrk} {ts : List Tal} {dm0 dt0 : D} (h : Hp) (hm : SlOf 3 mrkr ms dm0) (ht : SlOf 3 talr ts dt0) (hml : ms.length ≤ 10000) (htl : ts.length ≤ 10000) :
  ∃ x, R fn1209 [.agg [dm0, dt0], .agg (batr b)] h = some (x, h) ∧ ApPost ms ts dm0 dt0 b.its x := by
 suffices Wp (R fn1209 [.agg [dm0, dt0], .agg (batr b)] h) (fun p => p.2 = h ∧ ApPost ms ts dm0 dt0 b.its p.1) by
  obtain ⟨⟨x, h'⟩, h1, rfl, h2⟩ := this
  exact ⟨x, h1, h2⟩
 obtain ⟨h40, hall⟩ := chkBat_all hck
 have hbl : ∀ g : Hp, dLoad tab g ty1064 (.fptr (batr b)) = some (.agg (batr b)) := fun g => id rfl
 have k2 : ∀ g : Hp, dLoad tab g ty1009 (.fptr [dm0, dt0]) = some (.agg [dm0, dt0]) := fun g => id rfl
 have hok : ∀ {x y : D}, x.one = true → y.one = true → (D.agg [x, y]).okv = true := fun {x y} h1 h2 => by
  cases x <;> first | (cases y <;> first | rfl | (simp [-bind_some, D.one] at h2)) | (simp [-bind_some, D.one] at h1)
 have hp0 : (dNew h ty1009 2 [[.nils, .nils]])[h.length]? = some (.row ty1009 2 [[.nils, .nils]]) := dNew_get _ _ _ _
 have hpl : (dNew h ty1009 2 [[.nils, .nils]]).length = h.length + 1 := by simp [-bind_some, dNew]
 have hpo : ∀ q, q < h.length → (dNew h ty1009 2 [[.nils, .nils]])[q]? = h[q]? := fun q hq => dNew_old _ _ _ _ hq
 generalize hP4 : ((D.ptr h.length 0 0, dNew h ty1009 2 [[.nils, .nils]]) : D × Hp) = p4
 have hp1 : p4.1 = .ptr h.length 0 0 := by rw [← hP4]
 have hp2 : p4.2 = dNew h ty1009 2 [[.nils, .nils]] := by rw [← hP4]
 generalize dNew h ty1009 2 [[.nils, .nils]] = g0 at hp0 hpl hpo hp2
 have r1 := s1113w b.hs b.nu b.its b.d g0 (.inl b.hd) hnm
 rw [← bat_x, hck] at r1
 rw [e1209]
 simp only [F1209, pBoxF_agg, bs, hP4, hp2, hbl, r1, dBin_neq, ne_eq, not_true, decide_false, dIf_bool, Bool.false_eq_true, if_false, k2, hpl, Option.bind_assoc]
 have q8 : (dNew g0 ty1009 2 [[.nils, .nils]])[h.length + 1]? = some (.row ty1009 2 [[.nils, .nils]]) := by rw [← hpl]; exact dNew_get _ _ _ _
 have ho8 : ∀ q, q < h.length + 1 → (dNew g0 ty1009 2 [[.nils, .nils]])[q]? = g0[q]? := fun q hq => dNew_old _ _ _ _ (by omega)
 have hl8 : (dNew g0 ty1009 2 [[.nils, .nils]]).length = h.length + 2 := by simp [-bind_some, dNew, hpl]
 generalize hP8 : ((D.ptr (h.length + 1) 0 0, dNew g0 ty1009 2 [[.nils, .nils]]) : D × Hp) = p8
 have hp81 : p8.1 = .ptr (h.length + 1) 0 0 := by rw [← hP8]
 have hp82 : p8.2 = dNew g0 ty1009 2 [[.nils, .nils]] := by rw [← hP8]
 generalize dNew g0 ty1009 2 [[.nils, .nils]] = g1 at q8 ho8 hl8 hp82
 refine wst1009 (kk := 0) (off := 0) (row := [.nils, .nils]) (v := .agg [dm0, dt0]) q8 (by rfl) (by rfl) (by simp) (hok (slof_one hm) (slof_one ht)) fun g2 u8 s8 => ?_
 replace u8 : g2[h.length + 1]? = some (.row ty1009 2 [[dm0, dt0]]) := u8
 have S0 : RfI h g2 ms ts [] dm0 dt0 .nils := ⟨by rw [s8.1]; omega, by rw [s8.2 _ (by omega), ho8 _ (by omega)]; exact hp0, u8, hm, ht, .nils _ _ _ _, fun q hq => by rw [s8.2 _ (by omega), ho8 _ (by omega), hpo _ hq]⟩
 clear u8 s8 q8 ho8 hl8 hp0 hpl hpo r1
 simp only [hp1]
 refine Wp.loop (fun k ds g => ∃ (n : Nat) (c1 c2 c3 c4 c5 c6 c7 c8 c9 c10 c11 : D) (ms' : List Mrk) (ts' : List Tal) (es : List Ev) (dm dt out : D), ds = [.nils, .int .i64 0, out, .int .i64 n, c1, c2, c3, c4, c5, c6, c7, c8, c9, c10, c11] ∧ k + n = b.its.length ∧ RfI h g ms' ts' es dm dt out ∧
   ms'.length ≤ ms.length + n ∧ ts'.length ≤ ts.length + 2 * n ∧ es.length ≤ n ∧ apS ms ts b.its = apS ms' ts' (b.its.drop n) ∧ ∀ es', apE ms' (b.its.drop n) es' → apE ms b.its (es ++ es'))
  (fun r => (r.1 = .ret ∧ nth 0 r.2.1 = .nils ∧ nth 1 r.2.1 = .int .i64 23 ∧ apS ms ts b.its = none ∧ h.length ≤ r.2.2.length ∧ (∀ q, q < h.length → r.2.2[q]? = h[q]?) ∧ r.2.2[h.length]? = some (.row ty1009 2 [[dm0, dt0]])) ∨
   (r.1 = .ext 0 ∧ ∃ (ms' : List Mrk) (ts' : List Tal) (es : List Ev) (dm dt out : D), nth 2 r.2.1 = out ∧ RfI h r.2.2 ms' ts' es dm dt out ∧ apS ms ts b.its = some (ms', ts') ∧ apE ms b.its es ∧ es.length ≤ b.its.length))
  b.its.length ⟨0, _, _, _, _, _, _, _, _, _, _, _, ms, ts, [], dm0, dt0, .nils, rfl, rfl, S0, by omega, by omega, by simp, rfl, fun es' he => he⟩ ?_ ?_
 ·rintro k ds g ⟨n, c1, c2, c3, c4, c5, c6, c7, c8, c9, c10, c11, ms', ts', es, dm, dt, out, rfl, hk, S, hlm, hlt, hle, hap, hev⟩
  simp only [F1209_L0, hp1, hp81, nth_zero, nth_succ, bs, Option.bind_assoc, bat_x, bx2, ld113, lens113 b.hd, dBin_lss]
  refine Wp.dif ?_ ?_
  ·intro h0
   have h0 : n < b.its.length := by have : (n : Int) < b.its.length := by simpa using h0
                                    omega
   obtain ⟨i, hi⟩ : ∃ i, b.its[n]? = some i := ⟨_, List.getElem?_eq_getElem h0⟩
   have hdr := drop_cons hi
   obtain ⟨hv0, hv1, hv2⟩ := hall i (List.mem_of_getElem? hi)
   obtain ⟨hi40, hi32, y, r, hyr, hyo⟩ := itv hv0
   have hwn : IntKind.wrap .i64 ((n : Int) + 1) = ((n + 1 : Nat) : Int) := by
    rw [wrap_i64 (by omega) (by omega)]; omega
   have hix : dIndexAddr tab ty113 b.d (.int .i64 (n : Int)) = some (.fptr (itr i)) := by rw [ixs113 b.hd]; simp [-bind_some, hi]
   have hz74 : ([.str [], .int .i64 0, .int .i64 0, .int .i64 0, .int .i64 0, .nils, .int .i64 0, .int .i64 0, .str [], .str [], .nils] : List D) = itr it0 := rfl
   have hlen := S.len
   have a1 : (dNew g ty74 11 [itr it0])[g.length]? = some (.row ty74 11 [itr it0]) := dNew_get _ _ _ _
   have S1 : RfI h (dNew g ty74 11 [itr it0]) ms' ts' es dm dt out := S.new (by simp [-bind_some, dNew]) fun q hq => dNew_old _ _ _ _ hq
   simp only [hix, ldIt, bs, hz74]
   generalize dNew g ty74 11 [itr it0] = g3 at a1 S1 ⊢
   refine wst74 (kk := 0) (off := 0) (row := itr it0) (v := .agg (itr i)) a1 (by rfl) (by rfl) (by exact Nat.le_refl _) (itr_okv _) fun g4 p4' s4 => ?_
   have p4' : g4[g.length]? = some (.row ty74 11 [itr i]) := p4'
   have S2 := S1.z a1 (by omega) s4
   have V := itv_of p4'
   clear a1 S1 s4
   have e77 := s1077 ms' dm dt i.e.a0 i.e.a1 g4 S2.m (by omega)
   simp only [S2.la, fap74_1, fap31_0, fap31_1, fap31_2, fap31_3, fap31_4, V.a0, V.a1, V.ls, V.a3, lens28 i.e.hld, e77, bs, dBin_leq]
   rw [hdr, apS_cons] at hap
   rw [hdr] at hev
   have hEx : ∀ es', apE ms' (i :: b.its.drop (n + 1)) es' = apE ms' (i :: b.its.drop (n + 1)) es' := fun _ => rfl
   generalize hmk : markOf ms' i.e.a0 i.e.a1 = mk at e77 hap
   have fin : ∀ (g' : Hp), h.length ≤ g'.length → (∀ q, q < h.length → g'[q]? = h[q]?) → g'[h.length]? = some (.row ty1009 2 [[.nils, .nils]]) → ∀ {f : Hp → Option Out} {Q : Out → Prop}, (∀ g'', h.length ≤ g''.length → (∀ q, q < h.length → g''[q]? = h[q]?) → g''[h.length]? = some (.row ty1009 2 [[dm0, dt0]]) → Wp (f g'') Q) →
     Wp ((dStore tab g' ty1009 (.ptr h.length 0 0) (.agg [dm0, dt0])).bind f) Q := by
    intro g' hl hb hp f Q k
    refine wst1009 (kk := 0) (off := 0) (row := [.nils, .nils]) hp (by rfl) (by rfl) (by simp) (hok (slof_one hm) (slof_one ht)) fun g'' u' s' => ?_
    exact k g'' (by rw [s'.1]; exact hl) (fun q hq => by rw [s'.2 _ (by omega)]; exact hb q hq) u'
   have hs0 := bxl b.hs b.nu b.d
   have hbx := bx0 b.hs b.nu b.d
   have hdup : ([42] : Str) = dupR := rfl
   refine Wp.bind (P := fun r : Out => (r.1 = .nrm ∧ ∃ ms2 ts2 es2 dm2 dt2 out2, nth 0 r.2.1 = .nils ∧ nth 1 r.2.1 = .int .i64 0 ∧ nth 2 r.2.1 = out2 ∧ RfI h r.2.2 ms2 ts2 es2 dm2 dt2 out2 ∧ ms2.length ≤ ms.length + (n + 1) ∧ ts2.length ≤ ts.length + 2 * (n + 1) ∧ es2.length ≤ n + 1 ∧ apS ms ts b.its = apS ms2 ts2 (b.its.drop (n + 1)) ∧ ∀ es', apE ms2 (b.its.drop (n + 1)) es' → apE ms b.its (es2 ++ es')) ∨
     (r.1 = .ret ∧ nth 0 r.2.1 = .nils ∧ nth 1 r.2.1 = .int .i64 23 ∧ apS ms ts b.its = none ∧ h.length ≤ r.2.2.length ∧ (∀ q, q < h.length → r.2.2[q]? = h[q]?) ∧ r.2.2[h.length]? = some (.row ty1009 2 [[dm0, dt0]]))) ?_ ?_
   ·refine Wp.dif (fun hA => ?_) fun hA => ?_
    ·
     have hA : i.e.a3 ≤ mk := by simpa using hA
     have hO : tkO mk i = some none := by unfold tkO; rw [if_pos hA]
     obtain ⟨dt2, e60, sl60⟩ := s60 ts' dt b.hs [42] (i.e.ls.length : Int) g4 S2.t (by omega) (by omega)
     simp only [fap1009_1, S2.l1, hbx, hs0, e60, bs]
     refine S2.tal sl60 p4' fun g5 S3 z5 l5 => ?_
     rw [hO] at hap
     simp only [hv1] at hap
     have hal := addT_len ts' b.hs dupR (i.e.ls.length : Int)
     refine .some (.inl ⟨rfl, ms', _, es, dm, dt2, out, rfl, rfl, rfl, S3, by omega, by rw [hdup]; omega, by omega, hap, fun es' he => hev es' ?_⟩)
     unfold apE
     rw [hmk, hO]
     exact he
    have hA : ¬ i.e.a3 ≤ mk := by simpa using hA
    simp only [V.a2, bs, dBin_lss]
    refine Wp.bind (P := fun r : Out => (r.1 = .nrm ∧ nth 0 r.2.1 = .nils ∧ nth 1 r.2.1 = .int .i64 0 ∧ ∃ (x : It) (kk : Nat) (dt1 : D), RfI h r.2.2 ms' (addT ts' i.e.a0 dupR (kk : Nat)) es dm dt1 out ∧ r.2.2[g.length]? = some (.row ty74 11 [itr x]) ∧ ((CutOf i mk kk x ∧ tkO mk i = some (some kk)) ∨ (x = i ∧ mk < i.e.a2 ∧ tkO mk i = none))) ∨
      (r.1 = .ret ∧ nth 0 r.2.1 = .nils ∧ nth 1 r.2.1 = .int .i64 23 ∧ tkO mk i = none ∧ h.length ≤ r.2.2.length ∧ (∀ q, q < h.length → r.2.2[q]? = h[q]?) ∧ r.2.2[h.length]? = some (.row ty1009 2 [[dm0, dt0]]))) ?_ ?_
    ·refine Wp.dif (fun hB => ?_) fun hB => ?_
     ·have hB : i.e.a2 < mk := by simpa using hB
      have hidx : idx (fun l : Lin => decide (l.off = mk)) 0 i.e.ls = idx (fun l : Lin => decide (l.off = mk)) 1 (i.e.ls.drop 1) := by
       rw [hyr]
       have : ¬ y.off = mk := by omega
       simp [-bind_some, idx, this]
      obtain ⟨j, e3, hj⟩ := s1003 i mk g4 (by omega)
      rw [← hidx] at e3 hj
      generalize hkk : idx (fun l : Lin => decide (l.off = mk)) 0 i.e.ls = kk at e3 hj
      simp only [V.i, e3, bs, dExtract_tup, List.getElem?_cons_zero, List.getElem?_cons_succ, boxIt, dUn_not]
      by_cases hk1 : kk < 1
      ·have hO : tkO mk i = none := by unfold tkO; rw [if_neg hA, if_neg (by omega), if_pos hB, hkk, if_pos hk1]
       simp only [hk1, not_true, decide_false, Bool.not_false, dIf_bool, if_true, k2, hp1, bs, Option.bind_assoc]
       refine fin g4 (by have := S2.len; omega) S2.low S2.p4 fun g5 a5 b5 c5 => ?_
       exact .some (.inr ⟨rfl, rfl, rfl, hO, a5, b5, c5⟩)
      ·have hO : tkO mk i = some (some kk.toNat) := by unfold tkO; rw [if_neg hA, if_neg (by omega), if_pos hB, hkk, if_neg hk1]
       rw [if_neg hk1] at hj
       have hjl : j.e.ls.length = i.e.ls.length - kk.toNat := by rw [hj.ls, List.length_drop]
       have hrg := idx_range (fun l : Lin => decide (l.off = mk)) i.e.ls 0
       rw [hkk] at hrg
       simp only [hk1, not_false_eq_true, decide_true, Bool.not_true, dIf_bool, Bool.false_eq_true, if_false, ldIt, bs, Option.bind_assoc]
       refine wst74 (kk := 0) (off := 0) (row := itr i) (v := .agg (itr j)) p4' (by rfl) (by rfl) (by exact Nat.le_refl _) (itr_okv _) fun g5 p5' s5 => ?_
       have p5' : g5[g.length]? = some (.row ty74 11 [itr j]) := p5'
       have S3 := S2.z p4' (by omega) s5
       have V3 := itv_of p5'
       have hwk : IntKind.wrap .i64 ((i.e.ls.length : Int) - (j.e.ls.length : Int)) = (kk.toNat : Int) := by rw [wrap_i64 (by omega) (by omega)]; omega
       obtain ⟨dt2, e60, sl60⟩ := s60 ts' dt b.hs [42] (kk.toNat : Int) g5 S3.t (by omega) (by omega)
       simp only [fap1009_1, S3.l1, hbx, hs0, fap74_1, fap31_4, V3.ls, lens28 j.e.hld, dBin_sub, hwk, e60, bs]
       refine S3.tal sl60 p5' fun g6 S4 z6 l6 => ?_
       refine .some (.inl ⟨rfl, rfl, rfl, j, kk.toNat, dt2, ?_, z6, .inl ⟨hj, hO⟩⟩)
       rw [hv1]; exact S4
     ·have hB : ¬ i.e.a2 < mk := by simpa using hB
      refine .some (.inl ⟨rfl, rfl, rfl, i, 0, dt, by rw [addT_0]; exact S2, p4', ?_⟩)
      by_cases hC : mk < i.e.a2
      ·exact .inr ⟨rfl, hC, by unfold tkO; rw [if_neg hA, if_pos hC]⟩
      ·refine .inl ⟨⟨rfl, rfl, rfl, by omega, rfl, rfl, rfl, rfl, rfl, by simp, rfl⟩, ?_⟩
       unfold tkO; rw [if_neg hA, if_neg hC, if_neg hB]
    rintro ⟨ex, dq, g5⟩ (⟨rfl, n0, n1, x, kk, dt1, S3, z3, hx⟩ | ⟨rfl, n0, n1, hO, a5, b5, c5⟩)
    ·simp only at n0 n1 S3 z3
     have V3 := itv_of z3
     simp only [toEnd_nrm, V3.a2, bs, dBin_gtr, n0, n1, hp1]
     rcases hx with ⟨hj, hO⟩ | ⟨rfl, hC, hO⟩
     case inr =>
      simp only [gt_iff_lt, hC, decide_true, dIf_bool, if_true, k2, bs, Option.bind_assoc]
      refine fin g5 (by have := S3.len; omega) S3.low S3.p4 fun g6 a6 b6 c6 => ?_
      rw [hO] at hap
      exact .some (.inr ⟨rfl, rfl, rfl, hap, a6, b6, c6⟩)
     have ha2 : ¬ x.e.a2 > mk := by have := hj.a2; omega
     obtain ⟨dm2, e10, sl10⟩ := s1210 ms' dm ⟨x.e.a0, x.e.a1, x.e.a3⟩ g5 S3.m (by omega)
     have e10 : R fn1210 [dm, .agg [.int .i64 x.e.a0, .int .i64 x.e.a1, .int .i64 x.e.a3]] g5 = some (dm2, g5) := e10
     simp only [ha2, decide_false, dIf_bool, Bool.false_eq_true, if_false, fap1009_0, S3.l0, V3.a0, V3.a1, V3.a3, bd1006_0_1_2, e10, bs, Option.bind_assoc]
     refine S3.mrk sl10 z3 fun g6 S4 z6 l6 => ?_
     have V4 := itv_of z6
     have hxl : x.e.ls.length = i.e.ls.length - kk := by rw [hj.ls, List.length_drop]
     have hal := addT_len ts' i.e.a0 dupR (kk : Nat)
     obtain ⟨dt2, e60, sl60⟩ := s60 (addT ts' i.e.a0 dupR (kk : Nat)) dt1 b.hs x.r (x.e.ls.length : Int) g6 S4.t (by omega) (by omega)
     simp only [fap1009_1, S4.l1, hbx, hs0, fap74_0, V4.r, V4.ls, lens28 x.e.hld, e60, bs]
     refine S4.tal sl60 z6 fun g7 S5 z7 l7 => ?_
     have V5 := itv_of z7
     have hal2 := addT_len (addT ts' i.e.a0 dupR (kk : Nat)) b.hs x.r (x.e.ls.length : Int)
     have hsl := setM_len ms' ⟨x.e.a0, x.e.a1, x.e.a3⟩
     rw [hO] at hap
     simp only at hap
     rw [← hxl, ← hj.r, ← hj.a1, ← hj.a3] at hap
     have ha0 : i.e.a0 = x.e.a0 := hj.a0.symm
     have hxh : b.hs = i.e.a0 := hv1.symm
     have hap2 : apS ms ts b.its = apS (setM ms' ⟨x.e.a0, x.e.a1, x.e.a3⟩) (addT (addT ts' i.e.a0 dupR (kk : Nat)) b.hs x.r (x.e.ls.length : Int)) (b.its.drop (n + 1)) := by
      rw [hap, hxh, ha0]
     simp only [V5.r, dBin_seql, bs]
     by_cases hr : x.r = []
     ·have hr' : (x.r == ([] : Str)) = true := by simpa using hr
      have hbs : pLitF tab ty40 1 [0] [.agg (evr x.e)] = some (.sl 10 true [evr x.e]) := id rfl
      have hlen5 := S5.len
      simp only [hr', dIf_bool, if_true, V5.e, hbs, bs, Option.bind_assoc]
      refine wap40 (n0 := h.length + 2) (by omega) S5.ow (rowsOf_sl _ _ _ _) (by simp only [List.length_map, List.length_cons, List.length_nil]; omega) fun x9 g9 o9 l9 k9 k9' i9 => ?_
      have ho9 : es.map evr ++ [evr x.e] = (es ++ [x.e]).map evr := by rw [List.map_append]; rfl
      rw [ho9] at o9
      simp only [bs, unblk_nrm, nth_zero, nth_succ]
      refine .some (.inl ⟨rfl, _, _, es ++ [x.e], dm2, dt2, x9, rfl, rfl, rfl, ⟨by show h.length + 2 ≤ g9.length; omega, by rw [k9 _ (by omega)]; exact S5.p4, by rw [k9 _ (by omega)]; exact S5.p8, S5.m, S5.t, o9, fun q hq => by rw [k9 _ (by omega)]; exact S5.low q hq⟩, by omega, by omega, by simp; omega, hap2, fun es' he => ?_⟩)
      rw [List.append_assoc]
      refine hev _ ?_
      unfold apE
      rw [hmk, hO]
      refine ⟨x, hj, ?_⟩
      rw [if_pos (by rw [← hj.r]; exact hr), ← hj.a1, ← hj.a3, ha0]
      exact ⟨x.e, es', rfl, ⟨rfl, rfl, rfl, rfl, rfl, rfl, rfl, rfl, rfl, rfl⟩, he⟩
     ·have hr' : (x.r == ([] : Str)) = false := by simpa using hr
      simp only [hr', dIf_bool, Bool.false_eq_true, if_false, bs, unblk_nrm, nth_zero, nth_succ]
      refine .some (.inl ⟨rfl, _, _, es, dm2, dt2, out, rfl, rfl, rfl, S5, by omega, by omega, by omega, hap2, fun es' he => hev _ ?_⟩)
      unfold apE
      rw [hmk, hO]
      refine ⟨x, hj, ?_⟩
      rw [if_neg (by rw [← hj.r]; exact hr), ← hj.a1, ← hj.a3, ha0]
      exact he
    ·simp only at n0 n1 a5 b5 c5
     rw [hO] at hap
     simp only [toEnd_ret, unblk_ret, n0, n1]
     exact .some (.inr ⟨rfl, rfl, rfl, hap, a5, b5, c5⟩)
   rintro ⟨ex, dq, g5⟩ (⟨rfl, ms2, ts2, es2, dm2, dt2, out2, n0, n1, n2, S5, h1, h2, h3, h4, h5⟩ | ⟨rfl, n0, n1, hO, a5, b5, c5⟩)
   ·simp only at n0 n1 n2 S5
    simp only [toEnd_nrm, dBin_add, hwn, bs, n0, n1, n2]
    exact .some (.inl ⟨rfl, k - 1, by omega, n + 1, _, _, _, _, _, _, _, _, _, _, _, ms2, ts2, es2, dm2, dt2, out2, rfl, by omega, S5, h1, h2, h3, h4, h5⟩)
   ·simp only at n0 n1 a5 b5 c5
    simp only [toEnd_ret, n0, n1]
    exact .some (.inr ⟨by simp, .inl ⟨rfl, rfl, rfl, hO, a5, b5, c5⟩⟩)
  ·intro h0
   have h0 : n = b.its.length := by have : ¬ (n : Int) < b.its.length := by simpa using h0
                                    omega
   subst h0
   rw [List.drop_length] at hap hev
   refine .some (.inr ⟨by simp, .inr ⟨rfl, ms', ts', es, dm, dt, out, rfl, S, hap, ?_, by omega⟩⟩)
   have := hev [] rfl
   rwa [List.append_nil] at this
 ·rintro ⟨ex, dq, g⟩ (⟨rfl, n0, n1, hO, a5, b5, c5⟩ | ⟨rfl, ms', ts', es, dm, dt, out, n2, S, hap, hev, hle⟩)
  ·simp only at n0 n1 a5 b5 c5
   have lq : dLoad tab g ty1009 (.ptr h.length 0 0) = some (.agg [dm0, dt0]) := by rw [ldp1009, row_of c5]; rfl
   simp only [unblk_ret, toEnd_ret, exEnd_ret, nth_zero, nth_succ, bs, hp1, lq, n0, n1, mkRes_3]
   have hfz : frz h.length g 4 (.tup [.agg [dm0, dt0], .nils, .int .i64 23]) = .tup [.agg [dm0, dt0], .nils, .int .i64 23] := by
    have z1 := slof_frz (n0 := h.length) (h := g) (n := 1) hm (fun a _ => mrkr_frz _ g _ a)
    have z2 := slof_frz (n0 := h.length) (h := g) (n := 1) ht (fun a _ => talr_frz _ g _ a)
    simp only [frz_tup, frz_agg, List.map_cons, List.map_nil, z1, z2, frz_nils, frz_int]
   rw [scope_eq hfz (.tup _ fun d hd => by
    simp at hd
    rcases hd with rfl | rfl | rfl
    ·refine .agg _ fun d hd => ?_
     simp at hd
     rcases hd with rfl | rfl
     ·exact slof_ok hm fun a _ => mrkr_ok _ a
     ·exact slof_ok ht fun a _ => talr_ok _ a
    ·constructor
    ·constructor) a5 b5]
   refine .some ⟨rfl, ?_⟩
   unfold ApPost
   rw [hO]
  ·simp only at n2 S
   have hlen := S.len
   simp only [unblk_self, toEnd_nrm, nth_zero, nth_succ, bs, hp1, S.la, n2, Option.bind_assoc]
   refine wst1009 (kk := 0) (off := 0) (row := [.nils, .nils]) (v := .agg [dm, dt]) S.p4 (by rfl) (by rfl) (by simp) (hok (slof_one S.m) (slof_one S.t)) fun g4 q4 s4 => ?_
   replace q4 : g4[h.length]? = some (.row ty1009 2 [[dm, dt]]) := q4
   have lq : dLoad tab g4 ty1009 (.ptr h.length 0 0) = some (.agg [dm, dt]) := by rw [ldp1009, row_of q4]; rfl
   simp only [lq, bs, mkRes_3]
   have ow := S.ow.keep (h' := g4) fun q hq _ => s4.2 q (by omega)
   have sl := own_sl (n0 := h.length) (n := 2) ow (by omega) fun a _ => evr_frz h.length g4 1 a
   have z1 := slof_frz (n0 := h.length) (h := g4) (n := 1) S.m (fun a _ => mrkr_frz _ g4 _ a)
   have z2 := slof_frz (n0 := h.length) (h := g4) (n := 1) S.t (fun a _ => talr_frz _ g4 _ a)
   have hfz : frz h.length g4 4 (.tup [.agg [dm, dt], out, .int .i64 0]) = .tup [.agg [dm, dt], frz h.length g4 3 out, .int .i64 0] := by
    simp only [frz_tup, frz_agg, List.map_cons, List.map_nil, frz_int, z1, z2]
   rw [scope_eq hfz (.tup _ fun d hd => by
    simp at hd
    rcases hd with rfl | rfl | rfl
    ·refine .agg _ fun d hd => ?_
     simp at hd
     rcases hd with rfl | rfl
     ·exact slof_ok S.m fun a _ => mrkr_ok _ a
     ·exact slof_ok S.t fun a _ => talr_ok _ a
    ·exact slof_ok sl fun a _ => evr_ok _ a
    ·constructor) (by have := s4.1; omega) (fun q hq => by rw [s4.2 _ (by omega)]; exact S.low q hq)]
   refine .some ⟨rfl, ?_⟩
   unfold ApPost
   rw [hap]
   exact ⟨_, _, _, es, rfl, S.m, S.t, sl, hev, hle⟩
theorem d1088u {h : Hp} {o : Nat} (hc : CD h o) (host most : Int) (h0 : 0 ≤ host) (h9 : host ≤ 999) (hm0 : 0 ≤ most) (hm1 : most ≤ 100) : ∃ x h', R fn1088 [.ptr o 0 0, .int .i64 host, .int .i64 most] h = some (x, h') ∧ CD h' o ∧ h.length ≤ h'.length ∧ (∀ q, q < h.length → q ≠ o → h'[q]? = h[q]?) ∧ ∃ bt : List (List It × D × Int), Own h' h.length ty1064 3 (bt.map (bRow host)) x ∧ (∀ p ∈ bt, Own h' h.length ty74 11 (p.1.map itr) p.2.1 ∧ p.1.length ≤ 3 ∧ (∀ i ∈ p.1, BIt host i) ∧ 0 ≤ p.2.2 ∧ p.2.2 ≤ 12) ∧ 1 ≤ bt.length ∧ bt.length ≤ 24 := by
 suffices Wp (R fn1088 [.ptr o 0 0, .int .i64 host, .int .i64 most] h) (fun p => CD p.2 o ∧ h.length ≤ p.2.length ∧ (∀ q, q < h.length → q ≠ o → p.2[q]? = h[q]?) ∧ ∃ bt : List (List It × D × Int), Own p.2 h.length ty1064 3 (bt.map (bRow host)) p.1 ∧ (∀ p' ∈ bt, Own p.2 h.length ty74 11 (p'.1.map itr) p'.2.1 ∧ p'.1.length ≤ 3 ∧ (∀ i ∈ p'.1, BIt host i) ∧ 0 ≤ p'.2.2 ∧ p'.2.2 ≤ 12) ∧ 1 ≤ bt.length ∧ bt.length ≤ 24) by
  obtain ⟨⟨x, h'⟩, h1, h2⟩ := this
  exact ⟨x, h', h1, h2⟩
 have ho := hc.lt
 rw [e1088]
 simp only [F1088, bs, Option.bind_assoc]
 obtain ⟨dps, g0, e0, c0, s0, ps, hps, hn3, hn1, hf⟩ := d71n hc host most hm0 hm1
 refine Wp.step e0 ?_
 simp only [lens111 hps, mk82 g0 ps.length (by omega), bs]
 have hg0 : g0.length = h.length := s0.1
 have B0 : BtI h o host ps g0.length (dNew g0 ty3 1 ((List.replicate ps.length 0).map atR)) .nils [] (List.replicate ps.length 0) := by
  refine ⟨by simp [-bind_some, dNew]; omega, fun q hq hn => ?_, c0.keep (dNew_old _ _ _ _ (by omega)), by omega, dNew_get _ _ _ _, by simp, fun f n p hn hp => ?_, Own.nils _ _ _ _, by simp⟩
  ·rw [dNew_old _ _ _ _ (by omega)]; exact s0.2 q hn
  ·have := List.mem_of_getElem? hn
   simp at this
   omega
 generalize hqa : g0.length = qa at B0
 generalize dNew g0 ty3 1 ((List.replicate ps.length 0).map atR) = g1 at B0
 generalize List.replicate ps.length 0 = ats0 at B0
 refine Wp.loop (fun k ds g => ∃ x a2 a3 a4 a5 a6 a7 a8 a9 b1 b2 b3 b4 b5 bt ats, ∃ n : Nat, ds = [x, .int .i64 n, a2, a3, a4, a5, a6, a7, a8, a9, b1, b2, b3, b4, b5] ∧ k + n = 12 ∧ BtI h o host ps qa g x bt ats ∧ bt.length ≤ 2 * n ∧ n ≤ bt.length)
  (fun r => ∃ x a1 a2 a3 a4 a5 a6 a7 a8 a9 b1 b2 b3 b4 b5 bt ats, r.1 = .ext 0 ∧ r.2.1 = [x, a1, a2, a3, a4, a5, a6, a7, a8, a9, b1, b2, b3, b4, b5] ∧ BtI h o host ps qa r.2.2 x bt ats ∧ 1 ≤ bt.length ∧ bt.length ≤ 24) 12
  ⟨_, _, _, _, _, _, _, _, _, _, _, _, _, _, [], ats0, 0, rfl, rfl, B0, by simp, by simp⟩ ?_ ?_
 ·rintro k ds g ⟨x, a2, a3, a4, a5, a6, a7, a8, a9, b1, b2, b3, b4, b5, bt, ats, n, rfl, hk, B, hbl, hbn⟩
  simp only [F1088_L0, nth_zero, nth_succ, bs, Option.bind_assoc, dBin_lss]
  refine Wp.dif ?_ ?_
  ·intro hlt
   have hlt : n < 12 := by have : (n : Int) < 12 := by simpa using hlt
                           omega
   have hwn : IntKind.wrap .i64 ((n : Int) + 1) = ((n + 1 : Nat) : Int) := by
    rw [wrap_i64 (by omega) (by omega)]; omega
   simp only [bd1064_0_1, bs]
   have hgl := B.len
   have hold : ∀ q, q < g.length → (dNew g ty1064 3 [[.int .i64 0, .int .i64 0, .nils]])[q]? = g[q]? := fun q hq => dNew_old _ _ _ _ hq
   have hzz : (dNew g ty1064 3 [[.int .i64 0, .int .i64 0, .nils]])[g.length]? = some (.row ty1064 3 [[.int .i64 0, .int .i64 0, .nils]]) := dNew_get _ _ _ _
   have hzl : (dNew g ty1064 3 [[.int .i64 0, .int .i64 0, .nils]]).length = g.length + 1 := by simp [-bind_some, dNew]
   generalize hp11 : ((D.ptr g.length 0 0, dNew g ty1064 3 [[.int .i64 0, .int .i64 0, .nils]]) : D × Hp) = p11
   have hp1 : p11.1 = .ptr g.length 0 0 := by rw [← hp11]
   generalize dNew g ty1064 3 [[.int .i64 0, .int .i64 0, .nils]] = g2 at hold hzz hzl
   have qal := (List.getElem?_eq_some_iff.1 B.at_).1
   have L : BtL h o qa g.length x bt := ⟨hgl, ho, qal, fun q hq => (B.out.lt hq).2, fun p hp q hq => ((B.its p hp).1.lt hq).2⟩
   refine wst1064 hzz (by rfl) (by rfl) (by simp) (by rfl) fun g3 q3 s3 => ?_
   replace q3 : g3[g.length]? = some (.row ty1064 3 [[.int .i64 host, .int .i64 n, .nils]]) := q3
   have B3 := B.keep L (B.cd.keep ((s3.2 o (by omega)).trans (hold o (by omega)))) (by rw [s3.1]; omega) (fun q hq _ => (s3.2 q (by omega)).trans (hold q hq))
   have bn : BnI h o host ps qa x bt g.length n g3 ats [] .nils := ⟨B3, by rw [s3.1]; omega, q3, Own.nils _ _ _ _, by simp⟩
   try simp only [bs]
   obtain ⟨v, g4, e4, c4, s4, v0, v1⟩ := next_b bn.B.cd 3 (by omega) (by omega)
   refine Wp.step e4 ?_
   have bn4 := bn.next L c4 s4
   obtain ⟨m, rfl⟩ := Int.eq_ofNat_of_zero_le v0
   have hw1 : IntKind.wrap .i64 (1 + (m : Int)) = ((m + 1 : Nat) : Int) := by
    rw [wrap_i64 (by omega) (by omega)]; omega
   simp only [dBin_add, hw1, bs, Option.bind_assoc]
   refine Wp.loop (fun k ds g' => ∃ c1 c2 c3 c4 c5 c6 c7 c8 c9 ats its y, ds = [.int .i64 (k : Nat), c1, c2, c3, c4, c5, c6, c7, c8, c9] ∧ k ≤ 3 ∧ its.length + k ≤ 3 ∧ BnI h o host ps qa x bt g.length n g' ats its y)
    (fun r => ∃ c0 c1 c2 c3 c4 c5 c6 c7 c8 c9 ats its y, r.1 = .ext 2 ∧ r.2.1 = [c0, c1, c2, c3, c4, c5, c6, c7, c8, c9] ∧ its.length ≤ 3 ∧ BnI h o host ps qa x bt g.length n r.2.2 ats its y) (m + 1)
    ⟨_, _, _, _, _, _, _, _, _, ats, [], .nils, rfl, by omega, by simp; omega, bn4⟩ ?_ ?_
   ·rintro k' ds g' ⟨c1, c2, c3, c4, c5, c6, c7, c8, c9, ats', its', y', rfl, hk3, hlk, bn'⟩
    rcases Nat.eq_zero_or_pos k' with rfl | hpos
    ·simp only [F1088_L1, nth_zero, nth_succ, bs, dBin_gtr]
     exact .some (.inr ⟨by simp, _, _, _, _, _, _, _, _, _, _, ats', its', y', rfl, rfl, by omega, bn'⟩)
    ·refine (b1088 L hps hf hn1 hn3 hm1 h0 h9 bn' (by omega) p11 hp1 k' hpos (by omega) _ _ _ _ _ _ _ _ _).mono ?_
     rintro _ ⟨g'', ats'', its'', y'', d1, d2, d3, d4, d5, d6, d7, d8, d9, rfl, bn'', hl''⟩
     exact .inl ⟨rfl, k' - 1, by omega, d1, d2, d3, d4, d5, d6, d7, d8, d9, ats'', its'', y'', rfl, by omega, by omega, bn''⟩
   ·rintro ⟨ex, ds, g'⟩ ⟨c0', c1, c2, c3, c4, c5, c6, c7, c8, c9, ats', its', y', q1, q2, hl3, bn'⟩
    simp only at q1 q2 bn'
    subst q1; subst q2
    simp only [unblk_self, toEnd_nrm, nth_zero, nth_succ, bs, Option.bind_assoc, hp1]
    have hld : dLoad tab g' ty1064 (.ptr g.length 0 0) = some (.agg [.int .i64 host, .int .i64 n, y']) := by
     rw [ldp1064, row_of bn'.pr]; rfl
    simp only [hld, bs, bs1059_1]
    have hpb := bn'.pg
    refine app_bt bn'.B ho (by omega) (its', y', (n : Int)) ⟨bn'.ow.from (by omega), hl3, bn'.ok, by show (0 : Int) ≤ (n : Int); omega, by show (n : Int) ≤ 12; omega⟩ fun x1 g5 B5 fre5 len5 => ?_
    try simp only [bs]
    obtain ⟨u, g6, e6, c6, s6, u0, u1⟩ := next_b B5.cd 4 (by omega) (by omega)
    refine Wp.step e6 ?_
    have B6 := B5.same ho c6 s6
    have hlen : (bt ++ [(its', y', (n : Int))]).length = bt.length + 1 := by simp
    have hdec : decide ((0 : Int) < ((bt ++ [(its', y', (n : Int))]).length : Int)) = true := decide_eq_true (by rw [hlen]; omega)
    generalize bt ++ [(its', y', (n : Int))] = bt1 at B5 B6 hlen hdec
    have hlo := leno1059 B6.out
    rw [List.length_map] at hlo
    simp only [dBin_eql, bs, gd_bool, hlo, dBin_gtr, hdec, Option.bind_assoc]
    have fin : ∀ (q : Bool) (R1 : Option D), (R1 = some (.bool q)) → True := fun _ _ _ => trivial
    generalize hq3 : decide (u = (3 : Int)) = b3
    have hpk : ((if b3 = true then some x1 else some D.und).bind fun t131 => (if b3 = true then dLenT tab ty1059 t131 else some .und).bind fun t132 => (if b3 = true then dBin tab .gtr ty3 t132 (.int .i64 0) else some .und).bind fun t133 => dPick (.bool b3) t133 (.bool false)) = some (.bool b3) := by
     cases b3
     ·simp [-bind_some]
     ·simp only [if_true, bs, hlo, dBin_gtr, hdec, dPick_bool]
    cases b3
    ·simp only [Bool.false_eq_true, if_false, bs, dPick_bool, dIf_bool, toEnd_nrm, unblk_nrm, nth_zero, dBin_add, hwn]
     exact .some (.inl ⟨rfl, k - 1, by omega, x1, _, _, _, _, _, _, _, _, _, _, _, _, _, bt1, ats', n + 1, rfl, by omega, B6, by omega, by omega⟩)
    ·simp only [if_true, bs, hlo, dBin_gtr, hdec, dPick_bool, dIf_bool, Option.bind_assoc]
     obtain ⟨w, g7, e7, c7, s7, w0, w1⟩ := next_b B6.cd bt1.length (by omega) (by omega)
     refine Wp.step e7 ?_
     have B7 := B6.same ho c7 s7
     obtain ⟨j, rfl⟩ := Int.eq_ofNat_of_zero_le w0
     have hj : j < bt1.length := by omega
     obtain ⟨pj, hpj⟩ : ∃ p, bt1[j]? = some p := ⟨_, List.getElem?_eq_getElem hj⟩
     obtain ⟨ob, hob, rfl, hgo⟩ := own_ix B7.out (i := j) (by simpa using hj)
     have hjj : (0 : Int) ≤ (j : Int) ∧ (j : Int) < (((bt1.map (bRow host)).length : Nat) : Int) := by rw [List.length_map]; omega
     have hr : (bt1.map (bRow host))[j]? = some (bRow host pj) := by rw [List.getElem?_map, hpj]; rfl
     have hld2 : dLoad tab g7 ty1064 (.ptr ob j 0) = some (.agg (bRow host pj)) := by
      rw [ldp1064, row_of hgo, hr]; rfl
     have hbl2 : pLitF tab ty1059 1 [0] [.agg (bRow host pj)] = some (.sl 3 true [bRow host pj]) := id rfl
     simp only [ixm1059, hjj, and_self, if_true, Nat.zero_add, Int.toNat_natCast, bs, hld2, hbl2]
     refine app_bt B7 ho (by omega) pj (B7.its pj (List.mem_of_getElem? hpj)) fun x2 g8 B8 fre8 len8 => ?_
     simp only [bs, toEnd_nrm, unblk_nrm, nth_zero, dBin_add, hwn]
     exact .some (.inl ⟨rfl, k - 1, by omega, x2, _, _, _, _, _, _, _, _, _, _, _, _, _, bt1 ++ [pj], ats', n + 1, rfl, by omega, B8, by simp; omega, by simp; omega⟩)
  ·intro hge
   have hge : n = 12 := by have : ¬ (n : Int) < 12 := by simpa using hge
                           omega
   exact .some (.inr ⟨by simp, x, _, _, _, _, _, _, _, _, _, _, _, _, _, _, bt, ats, rfl, rfl, B, by omega, by omega⟩)
 ·rintro ⟨ex, ds, g⟩ ⟨x, a1, a2, a3, a4, a5, a6, a7, a8, a9, b1, b2, b3, b4, b5, bt, ats, q1, q2, B, hl1, hl24⟩
  simp only at q1 q2 B
  subst q1; subst q2
  simp only [unblk_self, toEnd_nrm, nth_zero, bs, mkRes_one]
  exact .some ⟨B.cd, B.len, B.gr, bt, B.out, B.its, by omega, by omega⟩
theorem s1089e {b : Bat} {c : Int} (hc : c ≠ 0) (hck0 : ∀ g, R fn1094 [.agg (batr b)] g = some (.int .i64 c, g)) {ms : List Mrk} {ts : List Tal} {dm0 dt0 : D} (h : Hp) (hm : SlOf 3 mrkr ms dm0) (ht : SlOf 3 talr ts dt0) :
  R fn1089 [.agg [dm0, dt0], .agg (batr b)] h = some (.tup [.agg [dm0, dt0], .nils, .int .i64 c], h) := by
 suffices Wp (R fn1089 [.agg [dm0, dt0], .agg (batr b)] h) (fun p => p = (.tup [.agg [dm0, dt0], .nils, .int .i64 c], h)) by
  obtain ⟨p, h1, rfl⟩ := this
  exact h1
 have hbl : ∀ g : Hp, dLoad tab g ty1064 (.fptr (batr b)) = some (.agg (batr b)) := fun g => id rfl
 have k2 : ∀ g : Hp, dLoad tab g ty1009 (.fptr [dm0, dt0]) = some (.agg [dm0, dt0]) := fun g => id rfl
 have hok : (D.agg [dm0, dt0]).okv = true := by
  have o1 := slof_one hm
  have o2 := slof_one ht
  clear k2 hm ht
  cases dm0 <;> first | (cases dt0 <;> first | rfl | (simp [-bind_some, D.one] at o2)) | (simp [-bind_some, D.one] at o1)
 have hp0 : (dNew h ty1009 2 [[.nils, .nils]])[h.length]? = some (.row ty1009 2 [[.nils, .nils]]) := dNew_get _ _ _ _
 have hpl : (dNew h ty1009 2 [[.nils, .nils]]).length = h.length + 1 := by simp [-bind_some, dNew]
 have hpo : ∀ q, q < h.length → (dNew h ty1009 2 [[.nils, .nils]])[q]? = h[q]? := fun q hq => dNew_old _ _ _ _ hq
 rw [e1089]
 simp only [F1089, pBoxF_agg, bs, hbl, hck0, dBin_neq, ne_eq, hc, not_false_eq_true, decide_true, dIf_bool, if_true, k2, Option.bind_assoc]
 generalize dNew h ty1009 2 [[.nils, .nils]] = g0 at hp0 hpl hpo ⊢
 refine wst1009 (kk := 0) (off := 0) (row := [.nils, .nils]) (v := .agg [dm0, dt0]) hp0 (by rfl) (by rfl) (by simp) hok fun g4 q4 s4 => ?_
 replace q4 : g4[h.length]? = some (.row ty1009 2 [[dm0, dt0]]) := q4
 have lq : dLoad tab g4 ty1009 (.ptr h.length 0 0) = some (.agg [dm0, dt0]) := by rw [ldp1009, row_of q4]; rfl
 simp only [lq, bs, mkRes_3]
 have hfz : frz h.length g4 4 (.tup [.agg [dm0, dt0], .nils, .int .i64 c]) = .tup [.agg [dm0, dt0], .nils, .int .i64 c] := by
  have z1 := slof_frz (n0 := h.length) (h := g4) (n := 1) hm (fun a _ => mrkr_frz _ g4 _ a)
  have z2 := slof_frz (n0 := h.length) (h := g4) (n := 1) ht (fun a _ => talr_frz _ g4 _ a)
  simp only [frz_tup, frz_agg, List.map_cons, List.map_nil, z1, z2, frz_nils, frz_int]
 rw [scope_eq hfz (.tup _ fun d hd => by
  simp at hd
  rcases hd with rfl | rfl | rfl
  ·refine .agg _ fun d hd => ?_
   simp at hd
   rcases hd with rfl | rfl
   ·exact slof_ok hm fun a _ => mrkr_ok _ a
   ·exact slof_ok ht fun a _ => talr_ok _ a
  ·constructor
  ·constructor) (by have := s4.1; omega) (fun q hq => by rw [s4.2 _ (by omega)]; exact hpo q hq)]
 exact .some rfl
theorem s1209e {b : Bat} {c : Int} (hc : c ≠ 0) (hck0 : ∀ g, R fn1113 [.agg (batr b)] g = some (.int .i64 c, g)) {ms : List Mrk} {ts : List Tal} {dm0 dt0 : D} (h : Hp) (hm : SlOf 3 mrkr ms dm0) (ht : SlOf 3 talr ts dt0) :
  R fn1209 [.agg [dm0, dt0], .agg (batr b)] h = some (.tup [.agg [dm0, dt0], .nils, .int .i64 c], h) := by
 suffices Wp (R fn1209 [.agg [dm0, dt0], .agg (batr b)] h) (fun p => p = (.tup [.agg [dm0, dt0], .nils, .int .i64 c], h)) by
  obtain ⟨p, h1, rfl⟩ := this
  exact h1
 have hbl : ∀ g : Hp, dLoad tab g ty1064 (.fptr (batr b)) = some (.agg (batr b)) := fun g => id rfl
 have k2 : ∀ g : Hp, dLoad tab g ty1009 (.fptr [dm0, dt0]) = some (.agg [dm0, dt0]) := fun g => id rfl
 have hok : (D.agg [dm0, dt0]).okv = true := by
  have o1 := slof_one hm
  have o2 := slof_one ht
  clear k2 hm ht
  cases dm0 <;> first | (cases dt0 <;> first | rfl | (simp [-bind_some, D.one] at o2)) | (simp [-bind_some, D.one] at o1)
 have hp0 : (dNew h ty1009 2 [[.nils, .nils]])[h.length]? = some (.row ty1009 2 [[.nils, .nils]]) := dNew_get _ _ _ _
 have hpl : (dNew h ty1009 2 [[.nils, .nils]]).length = h.length + 1 := by simp [-bind_some, dNew]
 have hpo : ∀ q, q < h.length → (dNew h ty1009 2 [[.nils, .nils]])[q]? = h[q]? := fun q hq => dNew_old _ _ _ _ hq
 rw [e1209]
 simp only [F1209, pBoxF_agg, bs, hbl, hck0, dBin_neq, ne_eq, hc, not_false_eq_true, decide_true, dIf_bool, if_true, k2, Option.bind_assoc]
 generalize dNew h ty1009 2 [[.nils, .nils]] = g0 at hp0 hpl hpo ⊢
 refine wst1009 (kk := 0) (off := 0) (row := [.nils, .nils]) (v := .agg [dm0, dt0]) hp0 (by rfl) (by rfl) (by simp) hok fun g4 q4 s4 => ?_
 replace q4 : g4[h.length]? = some (.row ty1009 2 [[dm0, dt0]]) := q4
 have lq : dLoad tab g4 ty1009 (.ptr h.length 0 0) = some (.agg [dm0, dt0]) := by rw [ldp1009, row_of q4]; rfl
 simp only [lq, bs, mkRes_3]
 have hfz : frz h.length g4 4 (.tup [.agg [dm0, dt0], .nils, .int .i64 c]) = .tup [.agg [dm0, dt0], .nils, .int .i64 c] := by
  have z1 := slof_frz (n0 := h.length) (h := g4) (n := 1) hm (fun a _ => mrkr_frz _ g4 _ a)
  have z2 := slof_frz (n0 := h.length) (h := g4) (n := 1) ht (fun a _ => talr_frz _ g4 _ a)
  simp only [frz_tup, frz_agg, List.map_cons, List.map_nil, z1, z2, frz_nils, frz_int]
 rw [scope_eq hfz (.tup _ fun d hd => by
  simp at hd
  rcases hd with rfl | rfl | rfl
  ·refine .agg _ fun d hd => ?_
   simp at hd
   rcases hd with rfl | rfl
   ·exact slof_ok hm fun a _ => mrkr_ok _ a
   ·exact slof_ok ht fun a _ => talr_ok _ a
  ·constructor
  ·constructor) (by have := s4.1; omega) (fun q hq => by rw [s4.2 _ (by omega)]; exact hpo q hq)]
 exact .some rfl
def apF (b : Bat) (ms : List Mrk) (ts : List Tal) : Int × List Mrk × List Tal :=
 if chkBat b.hs b.its ≠ 0 then (chkBat b.hs b.its, ms, ts) else match apS ms ts b.its with
  | none => (23, ms, ts)
  | some s => (0, s.1, s.2)
def evP (b : Bat) (ms : List Mrk) (ts : List Tal) (es : List Ev) : Prop :=
 if chkBat b.hs b.its ≠ 0 then es = [] else match apS ms ts b.its with
  | none => es = []
  | some _ => apE ms b.its es ∧ es.length ≤ b.its.length
theorem apF_facts (b : Bat) {ms : List Mrk} {ts : List Tal} (hma : MAsc ms) (hta : TAsc ts) : MAsc (apF b ms ts).2.1 ∧ TAsc (apF b ms ts).2.2 ∧ (apF b ms ts).2.1.length ≤ ms.length + 40 ∧ (apF b ms ts).2.2.length ≤ ts.length + 80 := by
 unfold apF
 split
 ·exact ⟨hma, hta, by simp, by simp⟩
 ·rename_i hc
  obtain ⟨h40, hall⟩ := chkBat_all (Decidable.not_not.1 hc)
  have hf := (apS_facts b.hs b.its (fun i hi => (hall i hi).2.1) ms ts hma hta).2
  cases hs : apS ms ts b.its with
  | none => exact ⟨hma, hta, by simp, by simp⟩
  | some s =>
   obtain ⟨h1, h2, h3, h4, _⟩ := hf s hs
   exact ⟨h1, h2, by show s.1.length ≤ _; omega, by show s.2.length ≤ _; omega⟩
theorem evP_det {b : Bat} {ms : List Mrk} {ts : List Tal} {es es' : List Ev} (h : evP b ms ts es) (k : evP b ms ts es') : EvsE es es' ∧ es.length ≤ 40 := by
 unfold evP at h k
 split at h
 ·rename_i hc
  rw [if_pos hc] at k
  subst h; subst k
  exact ⟨trivial, by simp⟩
 ·rename_i hc
  rw [if_neg hc] at k
  obtain ⟨h40, _⟩ := chkBat_all (Decidable.not_not.1 hc)
  cases hs : apS ms ts b.its with
  | none =>
   rw [hs] at h k
   simp only at h k
   subst h; subst k
   exact ⟨trivial, by simp⟩
  | some s =>
   rw [hs] at h k
   exact ⟨apE_det b.its ms ts es es' (by rw [hs]; simp [-bind_some]) h.1 k.1, by omega⟩
theorem ap_fin {b : Bat} {ms : List Mrk} {ts : List Tal} {dm0 dt0 : D} (hck : chkBat b.hs b.its = 0) (hm : SlOf 3 mrkr ms dm0) (ht : SlOf 3 talr ts dt0) {x : D} (hp : ApPost ms ts dm0 dt0 b.its x) :
  ∃ a1 a2 a3 es, x = .tup [.agg [a1, a2], a3, .int .i64 (apF b ms ts).1] ∧ SlOf 3 mrkr (apF b ms ts).2.1 a1 ∧ SlOf 3 talr (apF b ms ts).2.2 a2 ∧ SlOf 10 evr es a3 ∧ evP b ms ts es := by
 unfold ApPost at hp
 unfold apF evP
 simp only [hck, ne_eq, not_true, if_false]
 cases hs : apS ms ts b.its with
 | none =>
  rw [hs] at hp
  exact ⟨dm0, dt0, .nils, [], hp, hm, ht, .nils _ _, rfl⟩
 | some s =>
  rw [hs] at hp
  obtain ⟨dm', dt', de, es, h1, h2, h3, h4, h5, h6⟩ := hp
  exact ⟨dm', dt', de, es, h1, h2, h3, h4, h5, h6⟩
theorem s1089f (b : Bat) {ms : List Mrk} {ts : List Tal} {dm0 dt0 : D} (h : Hp) (hm : SlOf 3 mrkr ms dm0) (ht : SlOf 3 talr ts dt0) (hma : MAsc ms) (hta : TAsc ts) (hml : ms.length ≤ 10000) (htl : ts.length ≤ 10000) :
  ∃ a1 a2 a3 es, R fn1089 [.agg [dm0, dt0], .agg (batr b)] h = some (.tup [.agg [a1, a2], a3, .int .i64 (apF b ms ts).1], h) ∧ SlOf 3 mrkr (apF b ms ts).2.1 a1 ∧ SlOf 3 talr (apF b ms ts).2.2 a2 ∧ SlOf 10 evr es a3 ∧ evP b ms ts es := by
 have hck0 : ∀ g, R fn1094 [.agg (batr b)] g = some (.int .i64 (chkBat b.hs b.its), g) := fun g => s1094w b.hs b.nu b.its b.d g (.inl b.hd)
 by_cases hck : chkBat b.hs b.its = 0
 ·rw [hck] at hck0
  obtain ⟨h40, hall⟩ := chkBat_all hck
  obtain ⟨x, hx, hp⟩ := s1089g h40 (fun i hi => by have := itv (hall i hi).1; omega) hck0 h hm ht hma hta hml htl
  obtain ⟨a1, a2, a3, es, rfl, h1, h2, h3, h4⟩ := ap_fin hck hm ht hp
  exact ⟨a1, a2, a3, es, hx, h1, h2, h3, h4⟩
 ·have := s1089e hck hck0 h hm ht
  unfold apF evP
  rw [if_pos hck]
  exact ⟨dm0, dt0, .nils, [], this, hm, ht, .nils _ _, by rw [if_pos hck]⟩
theorem s1209f (b : Bat) (hnm : ∀ i ∈ b.its, NmB i.e) {ms : List Mrk} {ts : List Tal} {dm0 dt0 : D} (h : Hp) (hm : SlOf 3 mrkr ms dm0) (ht : SlOf 3 talr ts dt0) (hml : ms.length ≤ 10000) (htl : ts.length ≤ 10000) :
  ∃ a1 a2 a3 es, R fn1209 [.agg [dm0, dt0], .agg (batr b)] h = some (.tup [.agg [a1, a2], a3, .int .i64 (apF b ms ts).1], h) ∧ SlOf 3 mrkr (apF b ms ts).2.1 a1 ∧ SlOf 3 talr (apF b ms ts).2.2 a2 ∧ SlOf 10 evr es a3 ∧ evP b ms ts es := by
 have hck0 : ∀ g, R fn1113 [.agg (batr b)] g = some (.int .i64 (chkBat b.hs b.its), g) := fun g => s1113w b.hs b.nu b.its b.d g (.inl b.hd) hnm
 by_cases hck : chkBat b.hs b.its = 0
 ·obtain ⟨x, hx, hp⟩ := s1209g hck hnm h hm ht hml htl
  obtain ⟨a1, a2, a3, es, rfl, h1, h2, h3, h4⟩ := ap_fin hck hm ht hp
  exact ⟨a1, a2, a3, es, hx, h1, h2, h3, h4⟩
 ·have := s1209e hck hck0 h hm ht
  unfold apF evP
  rw [if_pos hck]
  exact ⟨dm0, dt0, .nils, [], this, hm, ht, .nils _ _, by rw [if_pos hck]⟩
end Go.Proofs.YthaajlepgblimaaDoor
