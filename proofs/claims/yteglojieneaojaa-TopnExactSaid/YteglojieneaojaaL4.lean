/- Laws, on plain data, about functions that the statement reaches. -/
import Derived.Test.YteglojieneaojaaL3
set_option linter.unusedSimpArgs false
set_option linter.unusedVariables false
set_option linter.unnecessarySimpa false
set_option maxRecDepth 100000
namespace Go.Proofs.Yteglojieneaojaa
open Go.Eng Go.Pi
/-- The stable sort. -/
theorem w1188 {c : Rw → Rw → Int} {S Pre : Rw → Rw → Prop} (od : SOrd c S Pre) {cmp : D} (hcmp : CmpFR cmp c) {o N : Nat} (hN : N ≤ 1000000000) {g : Hp} {l : List Rw} (hl : l.length = N) (hpre : l.Pairwise Pre)
    (ho : g[o]? = some (.row ty1146 3 (l.map rowr))) : Wp (R fn1188 [.msl 3 o 0 N, .int .i64 N, cmp] g) fun p => ∃ C : List Rw, C.Perm l ∧ C.Pairwise S ∧ p.2[o]? = some (.row ty1146 3 (C.map rowr)) ∧ Same o g p.2 := by
  rw [e1188]
  simp only [F1188, bs, Option.bind_assoc]
  refine Wp.loop (fun n ds g' => ∃ u, ∃ X Y : List Rw, ds = [.int .i64 (X.length : Nat), .int .i64 ((X.length + 20 : Nat) : Int), u] ∧ n = Y.length ∧ (X ++ Y).Perm l ∧ Y.Pairwise Pre ∧ CtxB S Pre 20 X Y ∧ g'[o]? = some (.row ty1146 3 ((X ++ Y).map rowr)) ∧ Same o g g')
    (fun r => r.1 = .ext 0 ∧ ∃ u, ∃ X Y : List Rw, r.2.1 = [.int .i64 (X.length : Nat), .int .i64 ((X.length + 20 : Nat) : Int), u] ∧ Y.length < 20 ∧ (X ++ Y).Perm l ∧ Y.Pairwise Pre ∧ CtxB S Pre 20 X Y ∧ r.2.2[o]? = some (.row ty1146 3 ((X ++ Y).map rowr)) ∧ Same o g r.2.2)
    l.length ⟨_, [], l, rfl, rfl, by simp [-Option.bind_some], hpre, CtxB.nil, by simpa [-Option.bind_some] using ho, .refl _ _⟩ ?_ ?_
  · rintro n ds g' ⟨u, X, Y, rfl, rfl, hp, hY, hc, ho', sm⟩
    have hXY : X.length + Y.length = N := by rw [← hl, ← hp.length_eq]; simp [-Option.bind_some]
    simp only [F1188_L0, nth_zero, nth_succ, bs, Option.bind_assoc, dBin_leq]
    refine Wp.dif ?_ ?_
    · intro h0
      have h0 : 20 ≤ Y.length := by have : ((X.length + 20 : Nat) : Int) ≤ (N : Int) := by simpa [-Option.bind_some] using h0
                                    omega
      obtain ⟨A, Y', rfl, hA⟩ : ∃ A Y', Y = A ++ Y' ∧ A.length = 20 := ⟨Y.take 20, Y.drop 20, (List.take_append_drop _ _).symm, by simp [-Option.bind_some]; omega⟩
      obtain ⟨y1, y2, y3⟩ := pre_split hY
      simp only [List.length_append] at hXY h0
      refine Wp.bind (ins_wpR od hcmp hN (P := X) (A := A) (Q := Y') (by simp only [List.length_append]; omega) y1 (by rw [ho']; simp [-Option.bind_some]) _ _ rfl (by omega)) ?_
      rintro ⟨d, g2⟩ ⟨C, q1, q2, q3, q4⟩
      have lC : C.length = 20 := by rw [q1.length_eq, hA]
      have w1 : IntKind.wrap .i64 (((X.length + 20 : Nat) : Int) + 20) = ((X.length + 20 + 20 : Nat) : Int) := by rw [wrap_i64 (by omega) (by omega)]; omega
      simp only [dBin_add, w1, bs]
      have eX : (X ++ C).length = X.length + 20 := by simp [-Option.bind_some, lC]
      refine .some (.inl ⟨rfl, Y'.length, by simp only [List.length_append]; omega, _, X ++ C, Y', by rw [eX], rfl, ?_, y2, hc.step q1 lC q2 y3, q3, sm.trans q4⟩)
      refine List.Perm.trans ?_ hp
      rw [List.append_assoc]
      exact (q1.append_right Y').append_left X
    · intro h0
      have h0 : ¬ 20 ≤ Y.length := by have : ¬ ((X.length + 20 : Nat) : Int) ≤ (N : Int) := by simpa [-Option.bind_some] using h0
                                      omega
      exact .some (.inr ⟨by simp [-Option.bind_some], rfl, _, X, Y, rfl, by omega, hp, hY, hc, ho', sm⟩)
  rintro ⟨ex, ds, g1⟩ ⟨rfl, u, X, Y, rfl, hYl, hp, hY, hc, ho1, s1⟩
  have hXY : X.length + Y.length = N := by rw [← hl, ← hp.length_eq]; simp [-Option.bind_some]
  simp only [unblk_self, toEnd_nrm, nth_zero, nth_succ, bs]
  refine Wp.bind (ins_wpR od hcmp hN (P := X) (A := Y) (Q := []) (by simp only [List.length_append, List.length_nil]; omega) hY (by simpa [-Option.bind_some] using ho1) _ _ rfl (by omega)) ?_
  rintro ⟨d, g2⟩ ⟨C, q1, q2, q3, q4⟩
  have bl : Blk S Pre 20 (X ++ C) := hc.done q1 (by rw [q1.length_eq]; omega) q2
  have hpZ : (X ++ C).Perm l := (q1.append_left X).trans hp
  have q3 : g2[o]? = some (.row ty1146 3 ((X ++ C).map rowr)) := by simpa [-Option.bind_some] using q3
  have s2 : Same o g g2 := s1.trans q4
  generalize X ++ C = Z at bl hpZ q3
  clear q1 q2 hc hY ho1 s1 q4
  simp only [bs, Option.bind_assoc]
  refine Wp.loop (fun n ds g' => ∃ u1 u2 u3 u4 u5 u6, ∃ k : Nat, ∃ Z : List Rw, ds = [.int .i64 (k : Int), u1, u2, u3, u4, u5, u6] ∧ n = N - k ∧ 0 < k ∧ k ≤ 2000000000 ∧ Z.Perm l ∧ Blk S Pre k Z ∧ g'[o]? = some (.row ty1146 3 (Z.map rowr)) ∧ Same o g g')
    (fun r => r.1 = .ext 2 ∧ ∃ u1 u2 u3 u4 u5 u6 u7, r.2.1 = [u1, u2, u3, u4, u5, u6, u7] ∧ ∃ Z : List Rw, Z.Perm l ∧ Z.Pairwise S ∧ r.2.2[o]? = some (.row ty1146 3 (Z.map rowr)) ∧ Same o g r.2.2)
    (N - 20) ⟨_, _, _, _, _, _, 20, Z, rfl, rfl, by omega, by omega, hpZ, bl, q3, s2⟩ ?_ ?_
  · clear q3 s2 bl hpZ Z hXY hp
    rintro n ds g3 ⟨u1, u2, u3, u4, u5, u6, k, Z, rfl, rfl, k0, k1, hp, bl, ho3, s3⟩
    have lZ : Z.length = N := by rw [hp.length_eq, hl]
    simp only [F1188_L1, nth_zero, nth_succ, bs, Option.bind_assoc, dBin_lss]
    refine Wp.dif ?_ ?_
    · intro h0
      have h0 : k < N := by have : (k : Int) < (N : Int) := by simpa [-Option.bind_some] using h0
                            omega
      have w1 : IntKind.wrap .i64 ((2 : Int) * (k : Int)) = ((2 * k : Nat) : Int) := by rw [wrap_i64 (by omega) (by omega)]; omega
      simp only [dBin_mul, w1, bs, Option.bind_assoc]
      refine Wp.loop (fun n ds g' => ∃ u, ∃ X Y : List Rw, ds = [.int .i64 (X.length : Nat), .int .i64 ((X.length + 2 * k : Nat) : Int), u] ∧ n = Y.length ∧ (X ++ Y).Perm l ∧ Blk S Pre k Y ∧ CtxB S Pre (2 * k) X Y ∧ g'[o]? = some (.row ty1146 3 ((X ++ Y).map rowr)) ∧ Same o g g')
        (fun r => r.1 = .ext 4 ∧ ∃ u v, ∃ X Y : List Rw, r.2.1 = [.int .i64 (X.length : Nat), u, v] ∧ Y.length < 2 * k ∧ (X ++ Y).Perm l ∧ Blk S Pre k Y ∧ CtxB S Pre (2 * k) X Y ∧ r.2.2[o]? = some (.row ty1146 3 ((X ++ Y).map rowr)) ∧ Same o g r.2.2)
        N ⟨u5, [], Z, by simp [-Option.bind_some], lZ.symm, by simpa [-Option.bind_some] using hp, bl, CtxB.nil, by simpa [-Option.bind_some] using ho3, s3⟩ ?_ ?_
      · rintro n ds g4 ⟨u, X, Y, rfl, rfl, hp4, bl4, hc4, ho4, s4⟩
        have hXY : X.length + Y.length = N := by rw [← hl, ← hp4.length_eq]; simp [-Option.bind_some]
        simp only [F1188_L2, nth_zero, nth_succ, bs, Option.bind_assoc, dBin_leq]
        refine Wp.dif ?_ ?_
        · intro h1
          have h1 : 2 * k ≤ Y.length := by have : ((X.length + 2 * k : Nat) : Int) ≤ (N : Int) := by simpa [-Option.bind_some] using h1
                                           omega
          obtain ⟨A, Y1, rfl, lA, sA, pA, bY1⟩ := bl4.fst (by omega)
          simp only [List.length_append] at hXY h1
          obtain ⟨B, Y2, rfl, lB, sB, pB, bY2⟩ := bY1.fst (by omega)
          simp only [List.length_append] at hXY h1
          have w2 : IntKind.wrap .i64 ((X.length : Int) + (k : Int)) = ((X.length + A.length : Nat) : Int) := by rw [wrap_i64 (by omega) (by omega)]; omega
          simp only [dBin_add, w2, bs, Option.bind_assoc]
          refine Wp.bind (w1193 od hcmp hN (A.length + B.length) g4 X A B Y2 _ _ _ (Nat.le_refl _) (by simp only [List.length_append]; omega) (by omega) (by omega) sA sB (fun x hx y hy => pA x hx y (by simp [-Option.bind_some, hy])) (by rw [ho4]; simp [-Option.bind_some]) rfl rfl (by omega)) ?_
          rintro ⟨d, g5⟩ ⟨C, q1, q2, q3, q4⟩
          have lC : C.length = 2 * k := by rw [q1.length_eq, List.length_append]; omega
          have w3 : IntKind.wrap .i64 (((X.length + 2 * k : Nat) : Int) + ((2 * k : Nat) : Int)) = ((X.length + 2 * k + 2 * k : Nat) : Int) := by rw [wrap_i64 (by omega) (by omega)]; omega
          simp only [dBin_mul, dBin_add, w1, w3, bs]
          have eX : (X ++ C).length = X.length + 2 * k := by simp [-Option.bind_some, lC]
          refine .some (.inl ⟨rfl, Y2.length, by simp only [List.length_append]; omega, _, X ++ C, Y2, by rw [eX], rfl, ?_, bY2, CtxB.step (A := A ++ B) (by rw [List.append_assoc]; exact hc4) q1 lC q2 (fun x hx y hy => ?_), q3, s4.trans q4⟩)
          · refine List.Perm.trans ?_ hp4
            rw [List.append_assoc, ← List.append_assoc A B Y2]
            exact (q1.append_right Y2).append_left X
          · rcases List.mem_append.1 hx with hx | hx
            · exact pA x hx y (by simp [-Option.bind_some, hy])
            · exact pB x hx y hy
        · intro h1
          have h1 : ¬ 2 * k ≤ Y.length := by have : ¬ ((X.length + 2 * k : Nat) : Int) ≤ (N : Int) := by simpa [-Option.bind_some] using h1
                                             omega
          exact .some (.inr ⟨by simp [-Option.bind_some], rfl, _, _, X, Y, rfl, by omega, hp4, bl4, hc4, ho4, s4⟩)
      rintro ⟨ex, ds, g4⟩ ⟨rfl, u, v, X, Y, rfl, hYl, hp4, bl4, hc4, ho4, s4⟩
      have hXY : X.length + Y.length = N := by rw [← hl, ← hp4.length_eq]; simp [-Option.bind_some]
      have w2 : IntKind.wrap .i64 ((X.length : Int) + (k : Int)) = ((X.length + k : Nat) : Int) := by rw [wrap_i64 (by omega) (by omega)]; omega
      have w4 : IntKind.wrap .i64 ((k : Int) * 2) = ((2 * k : Nat) : Int) := by rw [wrap_i64 (by omega) (by omega)]; omega
      simp only [unblk_self, toEnd_nrm, nth_zero, nth_succ, bs, dBin_add, w2, dBin_lss, Option.bind_assoc]
      refine Wp.bind (P := fun r => r.1 = .nrm ∧ ∃ Z : List Rw, Z.Perm l ∧ Blk S Pre (2 * k) Z ∧ r.2.2[o]? = some (.row ty1146 3 (Z.map rowr)) ∧ Same o g r.2.2) ?_ ?_
      · by_cases hm : X.length + k < N
        · have d1 : decide (((X.length + k : Nat) : Int) < (N : Int)) = true := decide_eq_true (by omega)
          obtain ⟨A, B, rfl, lA, sA, pA, bB⟩ := bl4.fst (by omega)
          simp only [List.length_append] at hXY hYl
          have sB : B.Pairwise S := bB.all (by omega)
          simp only [d1, dIf_bool, if_true]
          refine Wp.bind (w1193 od hcmp hN (A.length + B.length) g4 X A B [] _ _ _ (Nat.le_refl _) (by simp only [List.length_append, List.length_nil]; omega) (by omega) (by omega) sA sB pA (by rw [ho4]; simp [-Option.bind_some]) rfl (by omega) (by omega)) ?_
          rintro ⟨d, g5⟩ ⟨C, q1, q2, q3, q4⟩
          refine .some ⟨rfl, X ++ C, (q1.append_left X).trans hp4, hc4.done q1 (by rw [q1.length_eq, List.length_append]; omega) q2, by simpa [-Option.bind_some] using q3, s4.trans q4⟩
        · have d1 : decide (((X.length + k : Nat) : Int) < (N : Int)) = false := decide_eq_false (by omega)
          simp only [d1, dIf_bool, Bool.false_eq_true, if_false]
          exact .some ⟨rfl, X ++ Y, hp4, hc4.done (List.Perm.refl _) (by omega) (bl4.all (by omega)), ho4, s4⟩
      rintro ⟨ex, ds, g5⟩ ⟨rfl, Z2, hp5, bl5, ho5, s5⟩
      simp only [toEnd_nrm, bs, w4]
      exact .some (.inl ⟨rfl, N - 2 * k, by omega, _, _, _, _, _, _, 2 * k, Z2, rfl, rfl, by omega, by omega, hp5, bl5, ho5, s5⟩)
    · intro h0
      have h0 : ¬ k < N := by have : ¬ (k : Int) < (N : Int) := by simpa [-Option.bind_some] using h0
                              omega
      exact .some (.inr ⟨by simp [-Option.bind_some], rfl, _, _, _, _, _, _, _, rfl, Z, hp, bl.all (by omega), ho3, s3⟩)
  rintro ⟨ex, ds, g3⟩ ⟨rfl, u1, u2, u3, u4, u5, u6, u7, rfl, Z3, hp3, sZ, ho3, s3⟩
  simp only [unblk_self, exEnd_nrm, bs]
  exact .some ⟨Z3, hp3, sZ, ho3, s3⟩
/-- The order of keys. -/
def kcmp : List Str → List Str → Int
  | [], [] => 0
  | [], _ :: _ => -1
  | _ :: _, [] => 1
  | a :: x, b :: y => if cmpS a b = 0 then kcmp x y else cmpS a b
theorem cmpS_zero (a b : Str) : cmpS a b = 0 ↔ a = b := by
  unfold cmpS
  by_cases h : Op.bytesLess a b = true
  · simp only [h, if_true]
    constructor
    · intro h; cases h
    · rintro rfl; rw [bL_irr] at h; cases h
  · by_cases h2 : a = b <;> simp [-Option.bind_some, h, h2, bL_irr]
theorem cmpS_neg (a b : Str) : cmpS b a = - cmpS a b := by
  unfold cmpS
  by_cases h : Op.bytesLess a b = true
  · have h2 : Op.bytesLess b a = false := by
      cases hh : Op.bytesLess b a
      · rfl
      · have := bL_tr h hh; rw [bL_irr] at this; cases this
    have h3 : ¬ b = a := by rintro rfl; rw [bL_irr] at h; cases h
    simp [-Option.bind_some, h, h2, h3]
  · have h : Op.bytesLess a b = false := by simpa [-Option.bind_some] using h
    by_cases h2 : a = b
    · subst h2; simp [-Option.bind_some, h]
    · have := bL_tot h h2
      simp [-Option.bind_some, h, h2, this]
theorem cmpS_lt (a b : Str) : cmpS a b < 0 ↔ Op.bytesLess a b = true := by
  unfold cmpS
  by_cases h : Op.bytesLess a b = true
  · simp [-Option.bind_some, h]
  · by_cases h2 : a = b <;> simp [-Option.bind_some, h, h2, bL_irr]
theorem cmpS_tr {a b c : Str} (h : cmpS a b < 0) (k : cmpS b c < 0) : cmpS a c < 0 := by
  rw [cmpS_lt] at *
  exact bL_tr h k
theorem kcmp_zero : ∀ (x y : List Str), kcmp x y = 0 ↔ x = y
  | [], [] => by simp [-Option.bind_some, kcmp]
  | [], _ :: _ => by simp [-Option.bind_some, kcmp]
  | _ :: _, [] => by simp [-Option.bind_some, kcmp]
  | a :: x, b :: y => by
    have ih := kcmp_zero x y
    unfold kcmp
    by_cases h : cmpS a b = 0
    · rw [if_pos h, ih]
      have := (cmpS_zero a b).1 h
      simp [-Option.bind_some, this]
    · rw [if_neg h]
      have h2 : ¬ a = b := fun hh => h ((cmpS_zero a b).2 hh)
      simp [-Option.bind_some, h, h2]
theorem kcmp_neg : ∀ (x y : List Str), kcmp y x = - kcmp x y
  | [], [] => rfl
  | [], _ :: _ => rfl
  | _ :: _, [] => rfl
  | a :: x, b :: y => by
    have ih := kcmp_neg x y
    unfold kcmp
    rw [cmpS_neg a b]
    by_cases h : cmpS a b = 0
    · rw [if_pos h, if_pos (by omega), ih]
    · rw [if_neg h, if_neg (by omega)]
theorem kcmp_tr : ∀ {x y z : List Str}, kcmp x y < 0 → kcmp y z < 0 → kcmp x z < 0
  | [], [], _, h, _ => by simp [-Option.bind_some, kcmp] at h
  | _ :: _, [], _, h, _ => by simp [-Option.bind_some, kcmp] at h
  | _, _ :: _, [], _, k => by simp [-Option.bind_some, kcmp] at k
  | [], _ :: _, _ :: _, _, _ => by simp [-Option.bind_some, kcmp]
  | a :: x, b :: y, c :: z, h, k => by
    unfold kcmp at h k ⊢
    by_cases h1 : cmpS a b = 0
    · rw [if_pos h1] at h
      have e := (cmpS_zero a b).1 h1
      subst e
      by_cases k1 : cmpS a c = 0
      · rw [if_pos k1] at k ⊢
        exact kcmp_tr h k
      · rw [if_neg k1] at k ⊢
        exact k
    · rw [if_neg h1] at h
      by_cases k1 : cmpS b c = 0
      · have e := (cmpS_zero b c).1 k1
        subst e
        rw [if_neg h1]; exact h
      · rw [if_neg k1] at k
        have := cmpS_tr h k
        rw [if_neg (by omega)]
        exact this
theorem str_ld (s : Str) (h : Hp) : dLoad tab h ty9 (.fptr [.str s]) = some (.str s) := id rfl
theorem drop_cons {α : Type} {l : List α} {i : Nat} {x : α} (h : l[i]? = some x) : l.drop i = x :: l.drop (i + 1) := by
  obtain ⟨hn, hh⟩ := List.getElem?_eq_some_iff.1 h
  rw [List.drop_eq_getElem_cons hn, hh]
theorem s1189 (x y : List Str) (dx dy : D) (h : Hp) (hx : SlOf 1 (fun s => [D.str s]) x dx) (hy : SlOf 1 (fun s => [D.str s]) y dy) (hl : x.length ≤ 1000000) (hl2 : y.length ≤ 1000000) : R fn1189 [dx, dy] h = some (.int .i64 (kcmp x y), h) := by
  suffices Wp (R fn1189 [dx, dy] h) (fun p => p = (.int .i64 (kcmp x y), h)) by
    obtain ⟨p, h1, rfl⟩ := this
    exact h1
  rw [e1189]
  simp only [F1189, bs, Option.bind_assoc, lens98 hx]
  generalize hV : kcmp x y = V
  refine Wp.loop (fun k ds g => g = h ∧ ∃ a b c d e f1 f2 f3, ∃ i : Nat, ds = [a, b, c, d, e, .int .i64 i, f1, f2, f3] ∧ k + i = x.length ∧ i ≤ y.length ∧ kcmp (x.drop i) (y.drop i) = V)
    (fun r => r.2.2 = h ∧ ((r.1 = .ret ∧ nth 0 r.2.1 = .int .i64 V) ∨ (r.1 = .ext 0 ∧ x.length ≤ y.length ∧ V = if x.length < y.length then -1 else 0))) x.length ⟨rfl, _, _, _, _, _, _, _, _, 0, rfl, by omega, by omega, hV⟩ ?_ ?_
  · rintro k ds g ⟨rfl, a, b, c, d, e, f1, f2, f3, i, rfl, hk, hi, hV⟩
    simp only [F1189_L0, nth_zero, nth_succ, bs, Option.bind_assoc, dBin_lss]
    refine Wp.dif ?_ ?_
    · intro h0
      have h0 : i < x.length := by have : (i : Int) < x.length := by simpa [-Option.bind_some] using h0
                                   omega
      obtain ⟨u, hu⟩ : ∃ u, x[i]? = some u := ⟨_, List.getElem?_eq_getElem h0⟩
      have hw : IntKind.wrap .i64 ((i : Int) + 1) = ((i + 1 : Nat) : Int) := by rw [wrap_i64 (by omega) (by omega)]; omega
      simp only [ixs98 hx, ixs98 hy, Int.natCast_nonneg, if_true, Int.toNat_natCast, hu, Option.map_some, bs, str_ld, lens98 hy, dBin_geq]
      rw [drop_cons hu] at hV
      by_cases h1 : i < y.length
      · obtain ⟨v, hv⟩ : ∃ v, y[i]? = some v := ⟨_, List.getElem?_eq_getElem h1⟩
        have d1 : decide ((i : Int) ≥ (y.length : Int)) = false := decide_eq_false (by omega)
        rw [drop_cons hv] at hV
        unfold kcmp at hV
        simp only [d1, dIf_bool, Bool.false_eq_true, if_false, hv, Option.map_some, bs, str_ld, s91, dBin_neq]
        by_cases h2 : cmpS u v = 0
        · rw [if_pos h2] at hV
          simp only [h2, ne_eq, not_true, decide_false, dIf_bool, Bool.false_eq_true, if_false, dBin_add, hw, bs]
          exact .some (.inl ⟨rfl, k - 1, by omega, rfl, _, _, _, _, _, _, _, _, i + 1, rfl, by omega, by omega, hV⟩)
        · rw [if_neg h2] at hV
          simp only [h2, ne_eq, not_false_eq_true, decide_true, dIf_bool, if_true]
          exact .some (.inr ⟨by simp [-Option.bind_some], rfl, .inl ⟨rfl, by rw [← hV]; rfl⟩⟩)
      · have d1 : decide ((i : Int) ≥ (y.length : Int)) = true := decide_eq_true (by omega)
        rw [List.drop_of_length_le (show y.length ≤ i by omega)] at hV
        simp only [d1, dIf_bool, if_true]
        exact .some (.inr ⟨by simp [-Option.bind_some], rfl, .inl ⟨rfl, by rw [← hV]; rfl⟩⟩)
    · intro h0
      have h0 : i = x.length := by have : ¬ (i : Int) < x.length := by simpa [-Option.bind_some] using h0
                                   omega
      subst h0
      refine .some (.inr ⟨by simp [-Option.bind_some], rfl, .inr ⟨rfl, hi, ?_⟩⟩)
      rw [List.drop_length] at hV
      rw [← hV]
      by_cases h1 : x.length < y.length
      · obtain ⟨v, hv⟩ : ∃ v, y[x.length]? = some v := ⟨_, List.getElem?_eq_getElem h1⟩
        rw [drop_cons hv, if_pos h1]; rfl
      · rw [List.drop_of_length_le (by omega), if_neg h1]; rfl
  · rintro ⟨ex, ds, g⟩ ⟨h1, h2⟩
    simp only at h1 h2
    subst h1
    rcases h2 with ⟨rfl, hn⟩ | ⟨rfl, hle, hv⟩
    · simp only [unblk_ret, toEnd_ret, exEnd_ret, nth_zero, nth_succ, bs, hn, mkRes_one]
      exact .some rfl
    · simp only [unblk_self, toEnd_nrm, bs, lens98 hx, lens98 hy, dBin_lss]
      subst hv
      by_cases h1 : x.length < y.length
      · have d1 : decide ((x.length : Int) < (y.length : Int)) = true := decide_eq_true (by omega)
        simp only [d1, dIf_bool, if_true, h1, mkRes_one]
        exact .some rfl
      · have d1 : decide ((x.length : Int) < (y.length : Int)) = false := decide_eq_false (by omega)
        simp only [d1, dIf_bool, Bool.false_eq_true, if_false, h1, mkRes_one]
        exact .some rfl
theorem s1183 (x y : List Str) (dx dy : D) (h : Hp) (hx : SlOf 1 (fun s => [D.str s]) x dx) (hy : SlOf 1 (fun s => [D.str s]) y dy) (hl : x.length ≤ 1000000) (hl2 : y.length ≤ 1000000) : R fn1183 [dx, dy] h = some (.int .i64 (kcmp x y), h) := by
  rw [e1183]
  simp only [F1183, bs, s1189 x y dx dy h hx hy hl hl2, mkRes_one]
theorem s1185 (x y : List Str) (dx dy : D) (h : Hp) (hx : SlOf 1 (fun s => [D.str s]) x dx) (hy : SlOf 1 (fun s => [D.str s]) y dy) (hl : x.length ≤ 1000000) (hl2 : y.length ≤ 1000000) : R fn1185 [dx, dy] h = some (.int .i64 (kcmp x y), h) := by
  suffices Wp (R fn1185 [dx, dy] h) (fun p => p = (.int .i64 (kcmp x y), h)) by
    obtain ⟨p, h1, rfl⟩ := this
    exact h1
  rw [e1185]
  simp only [F1185, bs, Option.bind_assoc]
  generalize hV : kcmp x y = V
  refine Wp.loop (fun k ds g => g = h ∧ ∃ a b c d, ∃ i : Nat, ds = [a, .int .i64 i, b, c, d] ∧ k + i = x.length ∧ i ≤ y.length ∧ kcmp (x.drop i) (y.drop i) = V)
    (fun r => r.2.2 = h ∧ ((r.1 = .ret ∧ nth 0 r.2.1 = .int .i64 V) ∨ (r.1 = .ext 0 ∧ V = if x.length < y.length then -1 else if x.length > y.length then 1 else 0))) x.length ⟨rfl, _, _, _, _, 0, rfl, by omega, by omega, hV⟩ ?_ ?_
  · rintro k ds g ⟨rfl, a, b, c, d, i, rfl, hk, hi, hV⟩
    simp only [F1185_L0, nth_zero, nth_succ, bs, Option.bind_assoc, lens98 hx, lens98 hy, dBin_lss]
    by_cases h0 : i < x.length
    · have d0 : decide ((i : Int) < (x.length : Int)) = true := decide_eq_true (by omega)
      obtain ⟨u, hu⟩ : ∃ u, x[i]? = some u := ⟨_, List.getElem?_eq_getElem h0⟩
      have hw : IntKind.wrap .i64 ((i : Int) + 1) = ((i + 1 : Nat) : Int) := by rw [wrap_i64 (by omega) (by omega)]; omega
      rw [drop_cons hu] at hV
      by_cases h1 : i < y.length
      · obtain ⟨v, hv⟩ : ∃ v, y[i]? = some v := ⟨_, List.getElem?_eq_getElem h1⟩
        have d1 : decide ((i : Int) < (y.length : Int)) = true := decide_eq_true (by omega)
        rw [drop_cons hv] at hV
        unfold kcmp at hV
        simp only [d0, gd_bool, if_true, bs, lens98 hx, lens98 hy, dBin_lss, d1, dPick_bool, dIf_bool, ixs98 hx, ixs98 hy, Int.natCast_nonneg, Int.toNat_natCast, hu, hv, Option.map_some, str_ld, dBin_slss, dBin_lss, sgtr]
        by_cases h2 : Op.bytesLess u v = true
        · have hc : cmpS u v = -1 := by simp [-Option.bind_some, cmpS, h2]
          rw [if_neg (by omega), hc] at hV
          simp only [h2, dIf_bool, if_true]
          exact .some (.inr ⟨by simp [-Option.bind_some], rfl, .inl ⟨rfl, by rw [← hV]; rfl⟩⟩)
        · have h2 : Op.bytesLess u v = false := by simpa [-Option.bind_some] using h2
          by_cases h3 : u = v
          · subst h3
            rw [if_pos ((cmpS_zero u u).2 rfl)] at hV
            simp only [h2, dIf_bool, Bool.false_eq_true, if_false, beq_self_eq_true, Bool.or_true, Bool.not_true, dBin_add, hw, bs]
            exact .some (.inl ⟨rfl, k - 1, by omega, rfl, _, _, _, _, i + 1, rfl, by omega, by omega, hV⟩)
          · have hb : (u == v) = false := by simpa [-Option.bind_some] using h3
            have hc : cmpS u v = 1 := by simp [-Option.bind_some, cmpS, h2, h3]
            rw [if_neg (by omega), hc] at hV
            simp only [h2, hb, dIf_bool, Bool.false_eq_true, if_false, Bool.or_self, Bool.not_false, if_true]
            exact .some (.inr ⟨by simp [-Option.bind_some], rfl, .inl ⟨rfl, by rw [← hV]; rfl⟩⟩)
      · have d1 : decide ((i : Int) < (y.length : Int)) = false := decide_eq_false (by omega)
        rw [List.drop_of_length_le (show y.length ≤ i by omega)] at hV
        simp only [d0, gd_bool, if_true, bs, lens98 hx, lens98 hy, dBin_lss, d1, dPick_bool, dIf_bool, Bool.false_eq_true, if_false]
        refine .some (.inr ⟨by simp [-Option.bind_some], rfl, .inr ⟨rfl, ?_⟩⟩)
        rw [← hV, if_neg (by omega), if_pos (by omega)]; rfl
    · have h0 : i = x.length := by omega
      subst h0
      have d0 : decide ((x.length : Int) < (x.length : Int)) = false := decide_eq_false (by omega)
      simp only [d0, gd_bool, reduceCtorEq, if_false, bs, dPick_bool, dIf_bool, Bool.false_eq_true]
      refine .some (.inr ⟨by simp [-Option.bind_some], rfl, .inr ⟨rfl, ?_⟩⟩)
      rw [List.drop_length] at hV
      rw [← hV]
      by_cases h1 : x.length < y.length
      · obtain ⟨v, hv⟩ : ∃ v, y[x.length]? = some v := ⟨_, List.getElem?_eq_getElem h1⟩
        rw [drop_cons hv, if_pos h1]; rfl
      · rw [List.drop_of_length_le (by omega), if_neg h1, if_neg (by omega)]; rfl
  · rintro ⟨ex, ds, g⟩ ⟨h1, h2⟩
    simp only at h1 h2
    subst h1
    rcases h2 with ⟨rfl, hn⟩ | ⟨rfl, hv⟩
    · simp only [unblk_ret, toEnd_ret, exEnd_ret, nth_zero, nth_succ, bs, hn, mkRes_one]
      exact .some rfl
    · simp only [unblk_self, toEnd_nrm, bs, lens98 hx, lens98 hy, dBin_lss, dBin_gtr]
      subst hv
      by_cases h1 : x.length < y.length
      · have d1 : decide ((x.length : Int) < (y.length : Int)) = true := decide_eq_true (by omega)
        simp only [d1, dIf_bool, if_true, h1, mkRes_one]
        exact .some rfl
      · have d1 : decide ((x.length : Int) < (y.length : Int)) = false := decide_eq_false (by omega)
        by_cases h2 : x.length > y.length
        · have d2 : decide ((x.length : Int) > (y.length : Int)) = true := decide_eq_true (by omega)
          simp only [d1, d2, dIf_bool, Bool.false_eq_true, if_false, if_true, h1, h2, mkRes_one]
          exact .some rfl
        · have d2 : decide ((x.length : Int) > (y.length : Int)) = false := decide_eq_false (by omega)
          simp only [d1, d2, dIf_bool, Bool.false_eq_true, if_false, h1, h2, mkRes_one]
          exact .some rfl
/-- The first number of a row. -/
def rnum (r : Rw) : Int := r.n.head?.getD 0
theorem rwF0 (r : Rw) : dFieldAddr tab ty1146 0 (.fptr (rowr r)) = some (.fptr (rowr r)) := id rfl
theorem rwF1 (r : Rw) : dFieldAddr tab ty1146 1 (.fptr (rowr r)) = some (.fptr [r.nd, .int .i64 r.er]) := id rfl
theorem rwF2 (r : Rw) : dFieldAddr tab ty1146 2 (.fptr (rowr r)) = some (.fptr [.int .i64 r.er]) := id rfl
theorem rwL0 (r : Rw) (h : Hp) : dLoad tab h ty98 (.fptr (rowr r)) = some r.kd := by
  have h1 := slof_one r.hk
  show dLoad tab h ty98 (.fptr [r.kd, r.nd, .int .i64 r.er]) = _
  generalize r.kd = a at h1
  cases a <;> first | rfl | (simp [-Option.bind_some, D.one] at h1)
theorem rwL1 (r : Rw) (h : Hp) : dLoad tab h ty82 (.fptr [r.nd, .int .i64 r.er]) = some r.nd := by
  have h1 := slof_one r.hn
  generalize r.nd = a at h1
  cases a <;> first | rfl | (simp [-Option.bind_some, D.one] at h1)
theorem rwL2 (r : Rw) (h : Hp) : dLoad tab h ty3 (.fptr [.int .i64 r.er]) = some (.int .i64 r.er) := id rfl
theorem rwL (r : Rw) (h : Hp) : dLoad tab h ty1146 (.fptr (rowr r)) = some (.agg (rowr r)) := id rfl
theorem rwBox (r : Rw) : pBoxF (.agg (rowr r)) = some (.fptr (rowr r)) := pBoxF_agg _
theorem inr_ld (n : Int) (h : Hp) : dLoad tab h ty3 (.fptr [.int .i64 n]) = some (.int .i64 n) := id rfl
theorem s1182 (r : Rw) (h : Hp) : R fn1182 [.agg (rowr r)] h = some (.int .i64 (rnum r), h) := by
  rw [e1182]
  simp only [F1182, rwBox, bs, rwF1, rwL1, lens82 r.hn, dBin_eql]
  have hn := r.hn
  unfold rnum
  cases hq : r.n with
  | nil => simp only [List.length_nil, Int.natCast_zero, decide_true, dIf_bool, if_true, mkRes_one, List.head?_nil, Option.getD_none]
  | cons z zs =>
    have d0 : decide (((z :: zs).length : Int) = 0) = false := decide_eq_false (by simp [-Option.bind_some]; omega)
    have hi := ixs82 hn 0
    rw [hq] at hi
    simp only [d0, dIf_bool, Bool.false_eq_true, if_false, bs, hi, Int.le_refl, if_true, Int.toNat_zero, List.getElem?_cons_zero, Option.map_some, inr, inr_ld, mkRes_one, List.head?_cons, Option.getD_some]
/-- Which row comes first. -/
def cR (x y : Rw) : Int := if cmpI (rnum y) (rnum x) = 0 then kcmp x.k y.k else cmpI (rnum y) (rnum x)
theorem s1181 (x y : Rw) (h : Hp) : R fn1181 [.agg (rowr x), .agg (rowr y)] h = some (.int .i64 (cR x y), h) := by
  rw [e1181]
  have hs : SlOf 1 inr [cmpI (rnum y) (rnum x), kcmp x.k y.k] (.sl 1 true [[.int .i64 (cmpI (rnum y) (rnum x))], [.int .i64 (kcmp x.k y.k)]]) := .inr ⟨true, rfl⟩
  have ho : orI [cmpI (rnum y) (rnum x), kcmp x.k y.k] = cR x y := by
    unfold orI orI orI cR
    split
    · split
      · rename_i h2; exact h2.symm
      · rfl
    · rfl
  simp only [F1181, rwBox, bs, rwL, s1182, s90, rwF0, rwL0, s1183 x.k y.k x.kd y.kd h x.hk y.hk x.hkl y.hkl, bs82_2, s89 _ _ h hs (by simp [-Option.bind_some]), ho, chk_true, mkRes_one]
theorem c1181 : CmpFR (.fn (.func fn1181) [] []) cR := fun x y g => by rw [callV_some]; exact s1181 x y g
/-- In order. -/
def rS (x y : Rw) : Prop := ¬ cR y x < 0
theorem cmpI_zero (a b : Int) : cmpI a b = 0 ↔ a = b := by
  unfold cmpI
  by_cases h : a < b
  · simp [-Option.bind_some, h]; omega
  · by_cases h2 : b < a
    · simp [-Option.bind_some, h, h2]; omega
    · simp [-Option.bind_some, h, h2]; omega
theorem cmpI_lt (a b : Int) : cmpI a b < 0 ↔ a < b := by
  unfold cmpI
  by_cases h : a < b
  · simp [-Option.bind_some, h]
  · by_cases h2 : b < a
    · simp [-Option.bind_some, h, h2]
    · simp [-Option.bind_some, h, h2]
theorem cR_lt (x y : Rw) : cR x y < 0 ↔ (rnum y < rnum x ∨ (rnum x = rnum y ∧ kcmp x.k y.k < 0)) := by
  unfold cR
  by_cases h : cmpI (rnum y) (rnum x) = 0
  · rw [if_pos h]
    rw [cmpI_zero] at h
    constructor
    · intro h2; exact .inr ⟨h.symm, h2⟩
    · rintro (h2 | ⟨_, h2⟩)
      · omega
      · exact h2
  · rw [if_neg h, cmpI_lt]
    rw [cmpI_zero] at h
    constructor
    · intro h2; exact .inl h2
    · rintro (h2 | ⟨h2, _⟩)
      · exact h2
      · exact absurd h2.symm h
theorem rS_iff (x y : Rw) : rS x y ↔ (rnum y < rnum x ∨ (rnum x = rnum y ∧ kcmp x.k y.k ≤ 0)) := by
  unfold rS
  rw [cR_lt, kcmp_neg]
  omega
theorem kle_tr {x y z : List Str} (h : kcmp x y ≤ 0) (k : kcmp y z ≤ 0) : kcmp x z ≤ 0 := by
  by_cases h1 : kcmp x y = 0
  · rw [kcmp_zero] at h1; subst h1; exact k
  · by_cases k1 : kcmp y z = 0
    · rw [kcmp_zero] at k1; subst k1; exact h
    · exact Int.le_of_lt (kcmp_tr (show kcmp x y < 0 by omega) (show kcmp y z < 0 by omega))
theorem rS_od : SOrd cR rS (fun _ _ => True) where
  tr := fun x y z h k => by
    rw [rS_iff] at *
    rcases h with h | ⟨h, h2⟩
    · rcases k with k | ⟨k, k2⟩
      · left; omega
      · left; omega
    · rcases k with k | ⟨k, k2⟩
      · left; omega
      · right; exact ⟨by omega, kle_tr h2 k2⟩
  lt := fun x y _ h => by
    unfold rS
    rw [cR_lt] at *
    have := kcmp_neg x.k y.k
    omega
  ge := fun x y _ h => h
theorem rS_anti {x y : Rw} (h : rS x y) (k : rS y x) : x.k = y.k := by
  rw [rS_iff] at h k
  rw [kcmp_neg] at k
  rw [← kcmp_zero]
  omega
/-- One order alone, when the keys differ. -/
theorem rS_uniq : ∀ {C E : List Rw}, C.Pairwise rS → E.Pairwise rS → C.Perm E → (C.map Rw.k).Nodup → C = E
  | [], E, _, _, hp, _ => by rw [List.nil_perm.1 hp]
  | x :: C, [], _, _, hp, _ => by cases List.perm_nil.1 hp
  | x :: C, y :: E, hC, hE, hp, hn => by
    rw [List.pairwise_cons] at hC hE
    rw [List.map_cons, List.nodup_cons] at hn
    have hxy : x = y := by
      apply Classical.byContradiction
      intro hne
      have hx : x ∈ E := by
        have : x ∈ y :: E := hp.mem_iff.1 (by simp [-Option.bind_some])
        rcases List.mem_cons.1 this with h | h
        · exact absurd h hne
        · exact h
      have hy : y ∈ C := by
        have : y ∈ x :: C := hp.mem_iff.2 (by simp [-Option.bind_some])
        rcases List.mem_cons.1 this with h | h
        · exact absurd h.symm hne
        · exact h
      have := rS_anti (hC.1 y hy) (hE.1 x hx)
      exact hn.1 (by rw [this]; exact List.mem_map.2 ⟨y, hy, rfl⟩)
    subst hxy
    rw [rS_uniq hC.2 hE.2 ((List.perm_cons x).1 hp) hn.2]
/-- Rows that can be read here. -/
def RdR (h : Hp) (l : List Rw) (d : D) : Prop := SlOf 3 rowr l d ∨ ∃ ob, d = .msl 3 ob 0 l.length ∧ h[ob]? = some (.row ty1146 3 (l.map rowr))
theorem rdR_rows {h : Hp} {l : List Rw} {d : D} (hd : RdR h l d) : dRowsOf h 3 d = some (l.map rowr) := by
  rcases hd with hd | ⟨ob, rfl, ho⟩
  · exact slof_rows h hd
  · have e : (List.take l.length (l.map rowr)) = l.map rowr := List.take_of_length_le (by simp [-Option.bind_some])
    simp [-Option.bind_some, dRowsOf, ho, e]
theorem rdR_len {h : Hp} {l : List Rw} {d : D} (hd : RdR h l d) : dLenT tab ty1144 d = some (.int .i64 l.length) := by
  rcases hd with hd | ⟨ob, rfl, _⟩
  · exact lens1144 hd
  · exact lenm1144 _ _ _ _
theorem RdR.own {h : Hp} {n0 : Nat} {l : List Rw} {d : D} (ow : Own h n0 ty1146 3 (l.map rowr) d) : RdR h l d := by
  rcases ow with ⟨rfl, hn⟩ | ⟨o, _, rfl, hg⟩
  · exact .inl (.inl ⟨rfl, by simpa [-Option.bind_some] using hn⟩)
  · exact .inr ⟨o, by rw [List.length_map], hg⟩
theorem u1179 (l : List Rw) (d : D) (h : Hp) (hd : RdR h l d) (hl : l.length ≤ 1000000) : ∃ d' h', R fn1179 [d] h = some (d', h') ∧ h.length ≤ h'.length ∧ (∀ q, q < h.length → h'[q]? = h[q]?) ∧
    ((l = [] ∧ SlOf 3 rowr [] d') ∨ ∃ ob, h.length ≤ ob ∧ d' = .msl 3 ob 0 l.length ∧ h'[ob]? = some (.row ty1146 3 (l.map rowr))) := by
  rw [e1179]
  have hrow := rdR_rows hd
  by_cases hn : d = .nils
  · subst hn
    have hl0 : l = [] := by
      rcases hd with (⟨_, h2⟩ | ⟨b, h2⟩) | ⟨ob, h2, _⟩
      · simpa [-Option.bind_some] using h2
      · cases h2
      · cases h2
    subst hl0
    exact ⟨.nils, h, by
      have hne : dBin tab .eql ty1144 .nils .nils = some (.bool true) := id rfl
      simp [-Option.bind_some, F1179, hne], Nat.le_refl _, fun _ _ => rfl, .inl ⟨rfl, .nils _ _⟩⟩
  · obtain ⟨x', h', e, hl', hq, ho⟩ := app_full (T := tab) (t := ty1144) (i := ti1144) (j := ti1146) (h := h) (id rfl) (id rfl) (id rfl) (by decide) (y := d) hrow (lim_ok (by have : ti1146.by_ = 56 := rfl; rw [this, List.length_map]; omega) (by rw [List.length_map]; omega))
    have e' : dAppend tab h ty1144 ty1144 (.sl 3 true []) d = some (x', h') := e
    have hne : dBin tab .eql ty1144 d .nils = some (.bool false) := by
      rcases hd with (⟨h2, _⟩ | ⟨b, rfl⟩) | ⟨ob, rfl, _⟩
      · exact absurd h2 hn
      · exact id rfl
      · exact id rfl
    refine ⟨x', h', ?_, hl', hq, ?_⟩
    · simp only [F1179, bs, hne, dIf_bool, Bool.false_eq_true, if_false, bs1144_0, e', mkRes_one]
    · rcases ho with ⟨rfl, hn⟩ | ⟨rfl, hn⟩ | ⟨ob, h1, rfl, h2⟩
      · have : l = [] := by simpa [-Option.bind_some] using hn
        exact .inl ⟨this, .inr ⟨true, rfl⟩⟩
      · have : l = [] := by simpa [-Option.bind_some] using hn
        exact .inl ⟨this, .nils _ _⟩
      · exact .inr ⟨ob, h1, by rw [List.length_map]; rfl, h2⟩
theorem s1180e (d cmp : D) (h : Hp) (hd : SlOf 3 rowr [] d) : ∃ x, R fn1180 [d, cmp] h = some (x, h) := by
  have hl : dLenT tab ty1144 d = some (.int .i64 0) := lens1144 hd
  have h65 : ∃ x, R fn1192 [d, .int .i64 0, .int .i64 0, cmp] h = some (x, h) := by
    rw [e1192]
    refine ⟨mkRes [], ?_⟩
    simp only [F1192, bs, Option.bind_assoc, dBin_add, show IntKind.wrap .i64 ((0 : Int) + 1) = 1 from rfl]
    rw [loopW_eq]
    simp [-Option.bind_some, F1192_L0]
  obtain ⟨x, h65⟩ := h65
  have h63 : ∃ x, R fn1188 [d, .int .i64 0, cmp] h = some (x, h) := by
    rw [e1188]
    refine ⟨mkRes [], ?_⟩
    simp only [F1188, bs, Option.bind_assoc]
    rw [loopW_eq]
    have h20 : ¬ (20 : Int) ≤ 0 := by omega
    have h21 : ¬ (20 : Int) < 0 := by omega
    simp only [F1188_L0, nth_zero, nth_succ, bs, dBin_leq, h20, decide_false, dIf_bool, Bool.false_eq_true, if_false, unblk_self, toEnd_nrm, h65]
    rw [loopW_eq]
    simp only [F1188_L1, nth_zero, nth_succ, bs, dBin_lss, h21, decide_false, dIf_bool, Bool.false_eq_true, if_false, unblk_self, exEnd_nrm]
  obtain ⟨y, h63⟩ := h63
  refine ⟨mkRes [], ?_⟩
  rw [e1180]
  simp only [F1180, bs, hl, h63]
theorem w1180 {cmp : D} (hcmp : CmpFR cmp cR) {o N : Nat} (hN : N ≤ 1000000000) {g : Hp} {l : List Rw} (hl : l.length = N) (ho : g[o]? = some (.row ty1146 3 (l.map rowr))) :
    ∃ d g', ∃ C : List Rw, R fn1180 [.msl 3 o 0 N, cmp] g = some (d, g') ∧ C.Perm l ∧ C.Pairwise rS ∧ g'[o]? = some (.row ty1146 3 (C.map rowr)) ∧ Same o g g' := by
  obtain ⟨⟨d, g'⟩, e, C, q1, q2, q3, q4⟩ := w1188 rS_od hcmp hN hl (List.pairwise_of_forall fun _ _ => trivial) ho
  refine ⟨mkRes [], g', C, ?_, q1, q2, q3, q4⟩
  rw [e1180]
  simp only [F1180, bs, lenm1144, e]
/-- How many of the first. -/
def cutN (n : Int) (k : Nat) : Nat := (min (max n 0) (k : Int)).toNat
theorem cutN_le (n : Int) (k : Nat) : cutN n k ≤ k := by unfold cutN; omega
theorem dMax_i (n : Int) : dMax (.int .i64 n) (.int .i64 0) = some (.int .i64 (max n 0)) := by
  show some (D.int .i64 (if (0 : Int) > n then 0 else n)) = _
  congr 2
  split <;> omega
theorem dMin_i (n : Int) (k : Nat) : dMin (.int .i64 (max n 0)) (.int .i64 (k : Int)) = some (.int .i64 ((cutN n k : Nat) : Int)) := by
  show some (D.int .i64 (if (k : Int) < max n 0 then (k : Int) else max n 0)) = _
  congr 2
  unfold cutN
  split <;> omega
theorem str_frz (n0 : Nat) (h : Hp) (n : Nat) {l : List Str} {d : D} (hd : SlOf 1 (fun s => [D.str s]) l d) : frz n0 h (n + 1) d = d := slof_frz hd fun a _ x hx => by
  simp [-Option.bind_some] at hx; subst hx; exact frz_str _ _ _ _
theorem inr_frz (n0 : Nat) (h : Hp) (n : Nat) {l : List Int} {d : D} (hd : SlOf 1 inr l d) : frz n0 h (n + 1) d = d := slof_frz hd fun a _ x hx => by
  simp [-Option.bind_some, inr] at hx; subst hx; exact frz_int _ _ _ _ _
theorem str_ok (n : Nat) {l : List Str} {d : D} (hd : SlOf 1 (fun s => [D.str s]) l d) : Ok n d := slof_ok hd fun a _ x hx => by
  simp [-Option.bind_some] at hx; subst hx; exact .str _
theorem inr_ok (n : Nat) {l : List Int} {d : D} (hd : SlOf 1 inr l d) : Ok n d := slof_ok hd fun a _ x hx => by
  simp [-Option.bind_some, inr] at hx; subst hx; exact .int _ _
theorem rowr_frz (n0 : Nat) (h : Hp) (n : Nat) (r : Rw) : ∀ d ∈ rowr r, frz n0 h (n + 1) d = d := fun d hd => by
  simp only [rowr, List.mem_cons, List.not_mem_nil, or_false] at hd
  rcases hd with rfl | rfl | rfl
  · exact str_frz _ _ _ r.hk
  · exact inr_frz _ _ _ r.hn
  · exact frz_int _ _ _ _ _
theorem rowr_ok (n : Nat) (r : Rw) : ∀ d ∈ rowr r, Ok n d := fun d hd => by
  simp only [rowr, List.mem_cons, List.not_mem_nil, or_false] at hd
  rcases hd with rfl | rfl | rfl
  · exact str_ok _ r.hk
  · exact inr_ok _ r.hn
  · exact .int _ _
theorem rows_scope {h g : Hp} {o m : Nat} {C : List Rw} (hm : m ≤ C.length) (ho : h.length ≤ o) (hg : g[o]? = some (.row ty1146 3 (C.map rowr))) (hl : h.length ≤ g.length) (hb : ∀ q, q < h.length → g[q]? = h[q]?) :
    scope h g (.msl 3 o 0 m) = some (.sl 3 false ((C.take m).map rowr), h) := by
  refine scope_eq ?_ ?_ hl hb
  · rw [frz_msl ho hg, List.drop_zero, ← List.map_take]
    rw [map_id_of fun row hrow => map_id_of fun d hd => by
      obtain ⟨r, _, rfl⟩ := List.mem_map.1 hrow
      exact rowr_frz _ _ _ r d hd]
  · exact slof_ok (SlOf.mk _ _ _ _) fun r _ => rowr_ok _ r
/-- Exact of package topn. -/
theorem s1172 (l : List Rw) (d : D) (n : Int) (h : Hp) (hd : RdR h l d) (hl : l.length ≤ 1000000) : ∃ C : List Rw, ∃ d', R fn1172 [d, .int .i64 n] h = some (d', h) ∧ C.Perm l ∧ C.Pairwise rS ∧ SlOf 3 rowr (C.take (cutN n l.length)) d' := by
  rw [e1172]
  obtain ⟨d1, h1, e1, hl1, hb1, hd1⟩ := u1179 l d h hd hl
  rcases hd1 with ⟨rfl, hd1⟩ | ⟨ob, hob, rfl, ho⟩
  · obtain ⟨x, hx⟩ := s1180e d1 (.fn (.func fn1181) [] []) h1 hd1
    have hcut : cutN n ([] : List Rw).length = 0 := by have := cutN_le n ([] : List Rw).length; simpa [-Option.bind_some] using this
    obtain ⟨d2, e2, hd2⟩ := slh1144 hd1 (k := .i64) (n := ((0 : Nat) : Int)) (by omega) (by simp [-Option.bind_some])
    have hsc : scope h h1 d2 = some (d2, h) := scope_eq (slof_frz hd2 fun a ha => by simp [-Option.bind_some] at ha) (slof_ok hd2 fun a ha => by simp [-Option.bind_some] at ha) hl1 hb1
    refine ⟨[], d2, ?_, List.Perm.refl _, List.Pairwise.nil, by simpa [-Option.bind_some] using hd2⟩
    have hmin := dMin_i n 0
    rw [show cutN n 0 = 0 from hcut] at hmin
    simp only [F1172, bs, e1, hx, e1184, F1184, dMax_i, lens1144 hd1, List.length_nil, hmin, e2, mkRes_one, hsc]
  · obtain ⟨x, h2, C, q1, q2, q3, q4, q5⟩ := w1180 c1181 (o := ob) (N := l.length) (by omega) rfl ho
    have hmin := dMin_i n l.length
    have hcut := cutN_le n l.length
    have hslice : dSliceAt tab ty1144 false true false [.msl 3 ob 0 l.length, .int .i64 ((cutN n l.length : Nat) : Int)] = some (.msl 3 ob 0 (cutN n l.length)) := msl_hi (T := tab) (t := ty1144) (i := ti1144) (j := ti1146) (id rfl) (id rfl) (id rfl) (id rfl) (by decide) hcut
    have hsc := rows_scope (m := cutN n l.length) (C := C) (by rw [q2.length_eq]; exact hcut) hob q4 (by have := q5.1; omega) (fun q hq => (q5.2 q (by omega)).trans (hb1 q hq))
    refine ⟨C, .sl 3 false ((C.take (cutN n l.length)).map rowr), ?_, q2, q3, .mk _ _ _ _⟩
    simp only [F1172, bs, e1, q1, e1184, F1184, dMax_i, lenm1144, hmin, hslice, mkRes_one, hsc]
theorem list_split {α : Type} [BEq α] [LawfulBEq α] {x y : List α} {i : Nat} {u v : α} (hu : x[i]? = some u) (hv : y[i]? = some v) : (x.drop i == y.drop i) = ((u == v) && (x.drop (i + 1) == y.drop (i + 1))) := by
  rw [drop_cons hu, drop_cons hv]; rfl
theorem s1177 (x y : List Str) (dx dy : D) (h : Hp) (hx : SlOf 1 (fun s => [D.str s]) x dx) (hy : SlOf 1 (fun s => [D.str s]) y dy) (hl : x.length ≤ 1000000) : R fn1177 [dx, dy] h = some (.bool (x == y), h) := by
  suffices Wp (R fn1177 [dx, dy] h) (fun p => p = (.bool (x == y), h)) by
    obtain ⟨p, h1, rfl⟩ := this
    exact h1
  rw [e1177]
  simp only [F1177, bs, Option.bind_assoc, lens98 hx, lens98 hy, dBin_neq]
  by_cases hne : x.length = y.length
  case neg =>
    have d0 : decide ((x.length : Int) ≠ (y.length : Int)) = true := decide_eq_true (by omega)
    have hb : (x == y) = false := by
      cases hq : x == y
      · rfl
      · exact absurd (congrArg List.length (eq_of_beq hq)) hne
    simp only [d0, dIf_bool, if_true, mkRes_one, hb]
    exact .some rfl
  have d0 : decide ((x.length : Int) ≠ (y.length : Int)) = false := decide_eq_false (by omega)
  simp only [d0, dIf_bool, Bool.false_eq_true, if_false]
  generalize hV : (x == y) = V
  refine Wp.loop (fun k ds g => g = h ∧ ∃ a b c, ∃ i : Nat, ds = [a, .int .i64 i, b, c] ∧ k + i = x.length ∧ (x.drop i == y.drop i) = V)
    (fun r => r.2.2 = h ∧ ((r.1 = .ret ∧ nth 0 r.2.1 = .bool false ∧ V = false) ∨ (r.1 = .ext 0 ∧ V = true))) x.length ⟨rfl, _, _, _, 0, rfl, by omega, hV⟩ ?_ ?_
  · rintro k ds g ⟨rfl, a, b, c, i, rfl, hk, hV⟩
    simp only [F1177_L0, nth_zero, nth_succ, bs, Option.bind_assoc, lens98 hx, dBin_lss]
    refine Wp.dif ?_ ?_
    · intro h0
      have h0 : i < x.length := by have : (i : Int) < x.length := by simpa [-Option.bind_some] using h0
                                   omega
      obtain ⟨u, hu⟩ : ∃ u, x[i]? = some u := ⟨_, List.getElem?_eq_getElem h0⟩
      obtain ⟨v, hv⟩ : ∃ v, y[i]? = some v := ⟨_, List.getElem?_eq_getElem (by omega)⟩
      have hw : IntKind.wrap .i64 ((i : Int) + 1) = ((i + 1 : Nat) : Int) := by rw [wrap_i64 (by omega) (by omega)]; omega
      rw [list_split hu hv] at hV
      simp only [ixs98 hx, ixs98 hy, Int.natCast_nonneg, if_true, Int.toNat_natCast, hu, hv, Option.map_some, bs, str_ld, dBin_sneq]
      cases hb : (u == v)
      · rw [hb] at hV
        simp only [Bool.not_false, dIf_bool, if_true]
        exact .some (.inr ⟨by simp [-Option.bind_some], rfl, .inl ⟨rfl, rfl, hV.symm⟩⟩)
      · rw [hb] at hV
        simp only [Bool.not_true, dIf_bool, Bool.false_eq_true, if_false, dBin_add, hw, bs]
        exact .some (.inl ⟨rfl, k - 1, by omega, rfl, _, _, _, i + 1, rfl, by omega, hV⟩)
    · intro h0
      have h0 : x.length ≤ i := by have : ¬ (i : Int) < x.length := by simpa [-Option.bind_some] using h0
                                   omega
      rw [List.drop_of_length_le h0, List.drop_of_length_le (by omega)] at hV
      exact .some (.inr ⟨by simp [-Option.bind_some], rfl, .inr ⟨rfl, hV.symm⟩⟩)
  · rintro ⟨ex, ds, g⟩ ⟨h1, h2⟩
    simp only at h1 h2
    subst h1
    rcases h2 with ⟨rfl, hn, rfl⟩ | ⟨rfl, rfl⟩
    · simp only [unblk_ret, toEnd_ret, exEnd_ret, nth_zero, nth_succ, bs, hn, mkRes_one]
      exact .some rfl
    · simp only [unblk_self, toEnd_nrm, bs, mkRes_one]
      exact .some rfl
theorem s1178 (x y : List Int) (dx dy : D) (h : Hp) (hx : SlOf 1 inr x dx) (hy : SlOf 1 inr y dy) (hl : x.length ≤ 1000000) : R fn1178 [dx, dy] h = some (.bool (x == y), h) := by
  suffices Wp (R fn1178 [dx, dy] h) (fun p => p = (.bool (x == y), h)) by
    obtain ⟨p, h1, rfl⟩ := this
    exact h1
  rw [e1178]
  simp only [F1178, bs, Option.bind_assoc, lens82 hx, lens82 hy, dBin_neq]
  by_cases hne : x.length = y.length
  case neg =>
    have d0 : decide ((x.length : Int) ≠ (y.length : Int)) = true := decide_eq_true (by omega)
    have hb : (x == y) = false := by
      cases hq : x == y
      · rfl
      · exact absurd (congrArg List.length (eq_of_beq hq)) hne
    simp only [d0, dIf_bool, if_true, mkRes_one, hb]
    exact .some rfl
  have d0 : decide ((x.length : Int) ≠ (y.length : Int)) = false := decide_eq_false (by omega)
  simp only [d0, dIf_bool, Bool.false_eq_true, if_false]
  generalize hV : (x == y) = V
  refine Wp.loop (fun k ds g => g = h ∧ ∃ a b c, ∃ i : Nat, ds = [a, .int .i64 i, b, c] ∧ k + i = x.length ∧ (x.drop i == y.drop i) = V)
    (fun r => r.2.2 = h ∧ ((r.1 = .ret ∧ nth 0 r.2.1 = .bool false ∧ V = false) ∨ (r.1 = .ext 0 ∧ V = true))) x.length ⟨rfl, _, _, _, 0, rfl, by omega, hV⟩ ?_ ?_
  · rintro k ds g ⟨rfl, a, b, c, i, rfl, hk, hV⟩
    simp only [F1178_L0, nth_zero, nth_succ, bs, Option.bind_assoc, lens82 hx, dBin_lss]
    refine Wp.dif ?_ ?_
    · intro h0
      have h0 : i < x.length := by have : (i : Int) < x.length := by simpa [-Option.bind_some] using h0
                                   omega
      obtain ⟨u, hu⟩ : ∃ u, x[i]? = some u := ⟨_, List.getElem?_eq_getElem h0⟩
      obtain ⟨v, hv⟩ : ∃ v, y[i]? = some v := ⟨_, List.getElem?_eq_getElem (by omega)⟩
      have hw : IntKind.wrap .i64 ((i : Int) + 1) = ((i + 1 : Nat) : Int) := by rw [wrap_i64 (by omega) (by omega)]; omega
      rw [list_split hu hv] at hV
      simp only [ixs82 hx, ixs82 hy, Int.natCast_nonneg, if_true, Int.toNat_natCast, hu, hv, Option.map_some, bs, inr, inr_ld, dBin_neq]
      by_cases hb : u = v
      · have hb' : (u == v) = true := by simpa [-Option.bind_some] using hb
        rw [hb'] at hV
        simp only [hb, ne_eq, not_true, decide_false, dIf_bool, Bool.false_eq_true, if_false, dBin_add, hw, bs]
        exact .some (.inl ⟨rfl, k - 1, by omega, rfl, _, _, _, i + 1, rfl, by omega, hV⟩)
      · have hb' : (u == v) = false := by simpa [-Option.bind_some] using hb
        rw [hb'] at hV
        simp only [hb, ne_eq, not_false_eq_true, decide_true, dIf_bool, if_true]
        exact .some (.inr ⟨by simp [-Option.bind_some], rfl, .inl ⟨rfl, rfl, hV.symm⟩⟩)
    · intro h0
      have h0 : x.length ≤ i := by have : ¬ (i : Int) < x.length := by simpa [-Option.bind_some] using h0
                                   omega
      rw [List.drop_of_length_le h0, List.drop_of_length_le (by omega)] at hV
      exact .some (.inr ⟨by simp [-Option.bind_some], rfl, .inr ⟨rfl, hV.symm⟩⟩)
  · rintro ⟨ex, ds, g⟩ ⟨h1, h2⟩
    simp only at h1 h2
    subst h1
    rcases h2 with ⟨rfl, hn, rfl⟩ | ⟨rfl, rfl⟩
    · simp only [unblk_ret, toEnd_ret, exEnd_ret, nth_zero, nth_succ, bs, hn, mkRes_one]
      exact .some rfl
    · simp only [unblk_self, toEnd_nrm, bs, mkRes_one]
      exact .some rfl
/-- What a row says. -/
def rcont (r : Rw) : List Str × List Int × Int := (r.k, r.n, r.er)
/-- SameRows, for rows that say the same. -/
theorem s1171 (l m : List Rw) (dl dm : D) (h : Hp) (hd : SlOf 3 rowr l dl) (he : SlOf 3 rowr m dm) (hs : l.map rcont = m.map rcont) (hl : l.length ≤ 1000000) : R fn1171 [dl, dm] h = some (.bool true, h) := by
  suffices Wp (R fn1171 [dl, dm] h) (fun p => p = (.bool true, h)) by
    obtain ⟨p, h1, rfl⟩ := this
    exact h1
  have hlen : l.length = m.length := by simpa [-Option.bind_some] using congrArg List.length hs
  rw [e1171]
  have d0 : decide ((l.length : Int) ≠ (m.length : Int)) = false := decide_eq_false (by omega)
  simp only [F1171, bs, Option.bind_assoc, lens1144 hd, lens1144 he, dBin_neq, d0, dIf_bool, Bool.false_eq_true, if_false]
  refine Wp.loop (fun k ds g => g = h ∧ ∃ a b c, ∃ i : Nat, ds = [a, .int .i64 i, b, c] ∧ k + i = l.length)
    (fun r => r.2.2 = h ∧ r.1 = .ext 0) l.length ⟨rfl, _, _, _, 0, rfl, rfl⟩ ?_ ?_
  · rintro k ds g ⟨rfl, a, b, c, i, rfl, hk⟩
    simp only [F1171_L0, nth_zero, nth_succ, bs, Option.bind_assoc, lens1144 hd, dBin_lss]
    refine Wp.dif ?_ ?_
    · intro h0
      have h0 : i < l.length := by have : (i : Int) < l.length := by simpa [-Option.bind_some] using h0
                                   omega
      obtain ⟨u, hu⟩ : ∃ u, l[i]? = some u := ⟨_, List.getElem?_eq_getElem h0⟩
      obtain ⟨v, hv⟩ : ∃ v, m[i]? = some v := ⟨_, List.getElem?_eq_getElem (by omega)⟩
      have hw : IntKind.wrap .i64 ((i : Int) + 1) = ((i + 1 : Nat) : Int) := by rw [wrap_i64 (by omega) (by omega)]; omega
      have hc : rcont u = rcont v := by
        have := congrArg (fun z : List (List Str × List Int × Int) => z[i]?) hs
        simp only [List.getElem?_map, hu, hv, Option.map_some, Option.some.injEq] at this
        exact this
      simp only [rcont, Prod.mk.injEq] at hc
      obtain ⟨c1, c2, c3⟩ := hc
      have b1 : (u.k == v.k) = true := by rw [c1]; simp [-Option.bind_some]
      have b2 : (u.n == v.n) = true := by rw [c2]; simp [-Option.bind_some]
      simp only [ixs1144 hd, ixs1144 he, Int.natCast_nonneg, if_true, Int.toNat_natCast, hu, hv, Option.map_some, bs, rwF0, rwF1, rwF2, rwL0, rwL1, rwL2, s1177 _ _ _ _ g u.hk v.hk u.hkl, b1, dUn_not, Bool.not_true, gd_bool, gdW_bool, s1178 _ _ _ _ g u.hn v.hn u.hnl, b2, dPick_bool, Bool.false_eq_true, if_false, dBin_neq]
      simp only [c3, ne_eq, not_true, decide_false, dIf_bool, Bool.false_eq_true, if_false, dBin_add, hw, bs]
      exact .some (.inl ⟨rfl, k - 1, by omega, rfl, _, _, _, i + 1, rfl, by omega⟩)
    · intro h0
      exact .some (.inr ⟨by simp [-Option.bind_some], rfl, rfl⟩)
  · rintro ⟨ex, ds, g⟩ ⟨h1, rfl⟩
    simp only at h1
    subst h1
    simp only [unblk_self, toEnd_nrm, bs, mkRes_one]
    exact .some rfl
theorem rdR_fld {h : Hp} {l : List Rw} {d : D} (hd : RdR h l d) (m : Nat) (y : Rw) (hy : l[m]? = some y) : ∃ q, dIndexAddr tab ty1144 d (.int .i64 (m : Int)) = some q ∧ dLoad tab h ty1146 q = some (.agg (rowr y)) ∧ (∃ qn, dFieldAddr tab ty1146 1 q = some qn ∧ dLoad tab h ty82 qn = some y.nd) ∧ (∃ qk, dFieldAddr tab ty1146 0 q = some qk ∧ dLoad tab h ty98 qk = some y.kd) := by
  have hm := (List.getElem?_eq_some_iff.1 hy).1
  rcases hd with hC | ⟨ob, he, ho⟩
  · exact ⟨.fptr (rowr y), by rw [ixs1144 hC]; simp [-Option.bind_some, hy], rwL y h, ⟨_, rwF1 y, rwL1 y h⟩, ⟨_, rwF0 y, rwL0 y h⟩⟩
  · have hr : (l.map rowr)[m]? = some (rowr y) := by rw [List.getElem?_map, hy]; rfl
    refine ⟨.ptr ob m 0, by rw [he, ixm1144, if_pos (by omega)]; simp [-Option.bind_some], by rw [ldp1146, row_of ho, hr]; rfl, ⟨.ptr ob m 1, by rw [fap1146_1], ?_⟩, ⟨.ptr ob m 0, by rw [fap1146_0], ?_⟩⟩
    · rw [ldp82, row_of ho, hr]; rfl
    · rw [ldp98, row_of ho, hr]; rfl
theorem RdR.keep {h g : Hp} {l : List Rw} {d : D} (hd : RdR h l d) (hk : ∀ q, q < h.length → g[q]? = h[q]?) : RdR g l d := by
  rcases hd with hd | ⟨ob, he, ho⟩
  · exact .inl hd
  · exact .inr ⟨ob, he, by rw [hk ob (List.getElem?_eq_some_iff.1 ho).1]; exact ho⟩
/-- The place of a row, from the end. -/
theorem l1173 (l : List Rw) (d : D) (h : Hp) (hd : RdR h l d) (ds0 : List D) (i : Nat) (x : Rw) (hx : l[i]? = some x) (hi1 : nth 1 ds0 = .int .i64 (i : Int)) (C : List Rw) (hC : RdR h C (nth 0 ds0)) (hCl : C.length ≤ 1000000) (hnn : x.n ≠ []) (hnC : ∀ y ∈ C, y.n ≠ []) (b : D) {β : Type} {f : Out → Option β} {Q : β → Prop}
    (K : ∀ (k : Nat) (v : D), k ≤ C.length → (k = 0 ∨ ∃ y, C[k - 1]? = some y ∧ ¬ cR x y < 0) → (∀ j y, k ≤ j → C[j]? = some y → cR x y < 0) → Wp (f (.ext 2, [.int .i64 (k : Int), v], h)) Q) : Wp ((loopW (F1173_L1 d ds0) [.int .i64 (C.length : Int), b] h).bind f) Q := by
  refine Wp.loop (fun n ds g => g = h ∧ ∃ c, ds = [.int .i64 (n : Int), c] ∧ n ≤ C.length ∧ ∀ j y, n ≤ j → C[j]? = some y → cR x y < 0)
    (fun r => r.1 = .ext 2 ∧ r.2.2 = h ∧ ∃ (k : Nat) (v : D), r.2.1 = [.int .i64 (k : Int), v] ∧ k ≤ C.length ∧ (k = 0 ∨ ∃ y, C[k - 1]? = some y ∧ ¬ cR x y < 0) ∧ (∀ j y, k ≤ j → C[j]? = some y → cR x y < 0)) C.length ⟨rfl, _, rfl, Nat.le_refl _, fun j y hj hy => by
      have := (List.getElem?_eq_some_iff.1 hy).1; omega⟩ ?_ ?_
  · rintro n ds g ⟨rfl, c, rfl, hn, hall⟩
    obtain ⟨qx, hix, _, ⟨xn, x1, x1l⟩, ⟨xk, x0, x0l⟩⟩ := rdR_fld hd i x hx
    obtain ⟨z, zs, hz⟩ : ∃ z zs, x.n = z :: zs := by
      cases hq : x.n with
      | nil => exact absurd hq hnn
      | cons z zs => exact ⟨z, zs, rfl⟩
    have hx0 : dIndexAddr tab ty82 x.nd (.int .i64 0) = some (.fptr (inr z)) := by rw [ixs82 x.hn, hz]; rfl
    have hxr : rnum x = z := by unfold rnum; rw [hz]; rfl
    simp only [F1173_L1, nth_zero, nth_succ, bs, Option.bind_assoc, hi1, dBin_gtr]
    by_cases h0 : n = 0
    · subst h0
      have d0 : decide (((0 : Nat) : Int) > 0) = false := decide_eq_false (by omega)
      simp only [d0, gd_bool, gdW_bool, gd_und, gdW_und, reduceCtorEq, if_false, if_true, bs, dPick_bool, Bool.false_eq_true, dIf_bool]
      exact .some (.inr ⟨by simp [-Option.bind_some], rfl, rfl, 0, _, rfl, by omega, .inl rfl, hall⟩)
    · obtain ⟨m, rfl⟩ : ∃ m, n = m + 1 := ⟨n - 1, by omega⟩
      have d0 : decide (((m + 1 : Nat) : Int) > 0) = true := decide_eq_true (by omega)
      have hw : IntKind.wrap .i64 (((m + 1 : Nat) : Int) - 1) = (m : Int) := by rw [wrap_i64 (by omega) (by omega)]; omega
      obtain ⟨y, hy⟩ : ∃ y, C[m]? = some y := ⟨_, List.getElem?_eq_getElem (by omega)⟩
      have hyn := hnC y (List.mem_of_getElem? hy)
      obtain ⟨w, ws, hw2⟩ : ∃ w ws, y.n = w :: ws := by
        cases hq : y.n with
        | nil => exact absurd hq hyn
        | cons z zs => exact ⟨z, zs, rfl⟩
      have hy0 : dIndexAddr tab ty82 y.nd (.int .i64 0) = some (.fptr (inr w)) := by rw [ixs82 y.hn, hw2]; rfl
      have hyr : rnum y = w := by unfold rnum; rw [hw2]; rfl
      obtain ⟨q, q1, _, q2, q3⟩ := rdR_fld hC m y hy
      obtain ⟨qn, q2, q2l⟩ := q2
      obtain ⟨qk, q3, q3l⟩ := q3
      have hk := s1185 x.k y.k x.kd y.kd g x.hk y.hk x.hkl y.hkl
      have hlt := cR_lt x y
      rw [hxr, hyr] at hlt
      simp only [d0, gd_bool, if_true, bs, hix, x1, x1l, hx0, inr, inr_ld, dBin_sub, hw, q1, q2, q2l, hy0, dBin_gtr, x0, x0l, q3, q3l]
      have hcond : ∀ (B : Bool) (f1 f2 : D → D × Hp → Option Out) , True := fun _ _ _ => trivial
      by_cases c1 : w < z
      · have d1 : decide (z > w) = true := decide_eq_true c1
        have hc : cR x y < 0 := hlt.2 (.inl c1)
        simp only [d1, gd_bool, gdW_bool, gd_und, gdW_und, reduceCtorEq, Bool.true_eq_false, Bool.false_eq_true, if_true, if_false, bs, dPick_bool, dIf_bool, dBin_sub, hw]
        exact .some (.inl ⟨rfl, m, by omega, rfl, _, rfl, by omega, fun j y' hj hy' => by
          by_cases hjm : j = m
          · subst hjm; rw [hy] at hy'; injection hy' with hy'; subst hy'; exact hc
          · exact hall j y' (by omega) hy'⟩)
      · have d1 : decide (z > w) = false := decide_eq_false (by omega)
        by_cases c2 : z = w
        · have d2 : decide (z = w) = true := decide_eq_true c2
          simp only [d1, d2, gd_bool, gdW_bool, if_true, bs, hix, x0, x1, x0l, x1l, hx0, inr, inr_ld, dBin_sub, hw, q1, q2, q2l, q3, q3l, hy0, dBin_eql, hk, dBin_lss, dPick_bool, Bool.false_eq_true, if_false, dIf_bool]
          by_cases c3 : kcmp x.k y.k < 0
          · have hc : cR x y < 0 := hlt.2 (.inr ⟨c2, c3⟩)
            simp only [c3, decide_true, if_true]
            exact .some (.inl ⟨rfl, m, by omega, rfl, _, rfl, by omega, fun j y' hj hy' => by
              by_cases hjm : j = m
              · subst hjm; rw [hy] at hy'; injection hy' with hy'; subst hy'; exact hc
              · exact hall j y' (by omega) hy'⟩)
          · have hc : ¬ cR x y < 0 := fun hh => by
              rcases hlt.1 hh with h | ⟨_, h⟩
              · exact c1 h
              · exact c3 h
            simp only [c3, decide_false, Bool.false_eq_true, if_false]
            exact .some (.inr ⟨by simp [-Option.bind_some], rfl, rfl, m + 1, _, rfl, hn, .inr ⟨y, by simpa [-Option.bind_some] using hy, hc⟩, hall⟩)
        · have d2 : decide (z = w) = false := decide_eq_false c2
          have hc : ¬ cR x y < 0 := fun hh => by
            rcases hlt.1 hh with h | ⟨h, _⟩
            · exact c1 h
            · exact c2 h
          simp only [d1, d2, gd_bool, gdW_bool, gd_und, gdW_und, reduceCtorEq, Bool.false_eq_true, if_true, if_false, bs, hix, x0, x1, x0l, x1l, hx0, inr, inr_ld, dBin_sub, hw, q1, q2, q2l, hy0, dBin_eql, dPick_bool, dIf_bool]
          exact .some (.inr ⟨by simp [-Option.bind_some], rfl, rfl, m + 1, _, rfl, hn, .inr ⟨y, by simpa [-Option.bind_some] using hy, hc⟩, hall⟩)
  · rintro ⟨ex, ds, g⟩ ⟨rfl, h2, k, v, rfl, k1, k2, k3⟩
    simp only at h2
    subst h2
    exact K k v k1 k2 k3
theorem own_hi {T : Tab} {t e : Nat} {i j : TI} (ht : T t = some i) (hi : i.td = .sl e) (he : T e = some j) (hp : 0 < j.sz) {h : Hp} {n0 U : Nat} {rows : List (List D)} {d : D} (hd : Own h n0 U j.sz rows d) {kk : IntKind} {k : Nat} (hk : k ≤ rows.length) :
    ∃ d', dSliceAt T t false true false [d, .int kk (k : Int)] = some d' ∧ dRowsOf h j.sz d' = some (rows.take k) := by
  rcases hd with ⟨rfl, rfl⟩ | ⟨o, _, rfl, hg⟩
  · have : k = 0 := by simpa [-Option.bind_some] using hk
    subst this
    exact ⟨.nils, by simp [-Option.bind_some, dSliceAt, dInt?, dSlice3, ht, hi, he], rfl⟩
  · exact ⟨_, msl_hi ht hi he rfl hp hk, by simp [-Option.bind_some, dRowsOf, hg]⟩
theorem own_lo {T : Tab} {t e : Nat} {i j : TI} (ht : T t = some i) (hi : i.td = .sl e) (he : T e = some j) (hp : 0 < j.sz) {h : Hp} {n0 U : Nat} {rows : List (List D)} {d : D} (hd : Own h n0 U j.sz rows d) {kk : IntKind} {k : Nat} (hk : k ≤ rows.length) :
    ∃ d', dSliceAt T t true false false [d, .int kk (k : Int)] = some d' ∧ dRowsOf h j.sz d' = some (rows.drop k) := by
  rcases hd with ⟨rfl, rfl⟩ | ⟨o, _, rfl, hg⟩
  · have : k = 0 := by simpa [-Option.bind_some] using hk
    subst this
    exact ⟨.nils, by simp [-Option.bind_some, dSliceAt, dInt?, dSlice3, ht, hi, he], rfl⟩
  · have h1 : (k : Int) ≤ (rows.length : Int) := by omega
    have h2 : (0 : Int) ≤ (k : Int) := by omega
    by_cases hlt : (k : Int) < (rows.length : Int) ∨ (k : Int) = 0
    · refine ⟨.msl j.sz o (0 + k) (rows.length - k), ?_, ?_⟩
      · have h3 : ((rows.length : Int) - (k : Int)).toNat = rows.length - k := by omega
        simp [-Option.bind_some, dSliceAt, dInt?, dSlice3, ht, hi, he, hp, h1]
        intro hh; omega
      · simp [-Option.bind_some, dRowsOf, hg]
        rw [List.take_of_length_le (by simp [-Option.bind_some])]
    · have hk2 : k = rows.length := by omega
      subst hk2
      refine ⟨.sl j.sz false [], ?_, by simp [-Option.bind_some, dRowsOf]⟩
      simp [-Option.bind_some, dSliceAt, dInt?, dSlice3, ht, hi, he, hp]
      first | (intro hh; omega) | (intro hh; exact absurd hh (by simpa [-Option.bind_some] using hlt))
end Go.Proofs.Yteglojieneaojaa
