/- Laws, on plain data, about functions that the statement reaches. -/
import Derived.Test.YtlpedofpnbggbaaDoorL6
set_option linter.unusedSimpArgs false
set_option linter.unusedVariables false
set_option linter.unnecessarySimpa false
set_option maxRecDepth 100000
namespace Go.Proofs.YtlpedofpnbggbaaDoor
open Go.Eng Go.Pi
open Option (bind_some)
theorem wL1 {g : Hp} {o N : Nat} {L : List (Str × Str)} (hN : N ≤ 1000000000) (hlen : L.length = N) (ho : g[o]? = some (.row ty109 2 (L.map fld))) (cmp : D) (m a b : Nat) (q : Nat → Prop) (hmN : m < N) (hmb : a ≤ b) (hbN : b ≤ N) (x : Str × Str) (hx : L[m]? = some x)
    (hc : ∀ t y, a ≤ t → t < b → L[t]? = some y → ∃ v, callV R cmp [.agg (fld x), .agg (fld y)] g = some (.int .i64 v, g) ∧ (¬ v < 0 ↔ q t)) (x1 x2 x3 : D) {β : Type} {f : Out → Option β} {Q : β → Prop}
    (K : ∀ (c : Nat) b1 b2 b3, a ≤ c → c ≤ b → (c = a ∨ q (c - 1)) → (c = b ∨ ¬ q c) → Wp (f (.ext 4, [.int .i64 (c : Int), .int .i64 (c : Int), b1, b2, b3], g)) Q) : Wp ((loopW (F1066_L1 (.msl 2 o 0 N) (.int .i64 (m : Int)) cmp) [.int .i64 (a : Int), .int .i64 (b : Int), x1, x2, x3] g).bind f) Q := by
  refine Wp.loop (fun kk ds g' => g' = g ∧ ∃ y1 y2 y3, ∃ i j : Nat, ds = [.int .i64 (i : Int), .int .i64 (j : Int), y1, y2, y3] ∧ kk = j - i ∧ a ≤ i ∧ i ≤ j ∧ j ≤ b ∧ (i = a ∨ q (i - 1)) ∧ (j = b ∨ ¬ q j))
    (fun r => r.1 = .ext 4 ∧ r.2.2 = g ∧ ∃ b1 b2 b3, ∃ c : Nat, r.2.1 = [.int .i64 (c : Int), .int .i64 (c : Int), b1, b2, b3] ∧ a ≤ c ∧ c ≤ b ∧ (c = a ∨ q (c - 1)) ∧ (c = b ∨ ¬ q c)) (b - a) ⟨rfl, _, _, _, a, b, rfl, rfl, Nat.le_refl _, hmb, Nat.le_refl _, .inl rfl, .inl rfl⟩ ?_ ?_
  · rintro kk ds g' ⟨rfl, y1, y2, y3, i, j, rfl, hk, h1, h2, h3, h4, h5⟩
    simp only [F1066_L1, nth_zero, nth_succ, bs, Option.bind_assoc, dBin_lss]
    refine Wp.dif ?_ ?_
    · intro h0
      have h0 : i < j := by have : (i : Int) < (j : Int) := by simpa using h0
                            omega
      obtain ⟨u1, u2, u3, u4⟩ := @mid_ok i j (by omega) (by omega)
      obtain ⟨y, hy⟩ : ∃ y, L[(i + j) / 2]? = some y := ⟨_, List.getElem?_eq_getElem (by omega)⟩
      obtain ⟨v, hv, hvc⟩ := hc ((i + j) / 2) y (by omega) (by omega) hy
      have ia := @ix29n o N ((i + j) / 2) (by omega)
      have ib := @ix29n o N m hmN
      have la := fldL ho hy
      have lb := fldL ho hx
      have w1 : IntKind.wrap .i64 ((((i + j) / 2 : Nat) : Int) + 1) = (((i + j) / 2 + 1 : Nat) : Int) := by rw [wrap_i64 (by omega) (by omega)]; omega
      simp only [dBin_add, u1, cv3_134, u2, dBin_shr, show ¬ (1 : Int) < 0 by omega, if_false, u3, cv134_3, u4, ia, ib, la, lb, hv, bs, dBin_lss, dUn_not, Option.bind_assoc]
      by_cases hlt : v < 0
      · have := fun h => (hvc.2 h) hlt
        simp only [hlt, decide_true, Bool.not_true, dIf_bool, Bool.false_eq_true, if_false, bs, unblk_nrm, nth_zero, nth_succ]
        exact .some (.inl ⟨rfl, (i + j) / 2 - i, by omega, rfl, _, _, _, _, _, rfl, rfl, by omega, by omega, by omega, h4, .inr this⟩)
      · have := hvc.1 hlt
        simp only [hlt, decide_false, Bool.not_false, dIf_bool, if_true, w1, bs, unblk_nrm, nth_zero, nth_succ]
        exact .some (.inl ⟨rfl, j - ((i + j) / 2 + 1), by omega, rfl, _, _, _, _, _, rfl, rfl, by omega, by omega, by omega, .inr (by simpa using this), h5⟩)
    · intro h0
      have h0 : ¬ i < j := by have : ¬ (i : Int) < (j : Int) := by simpa using h0
                              omega
      obtain rfl : j = i := by omega
      exact .some (.inr ⟨by simp, rfl, rfl, _, _, _, j, rfl, h1, h3, h4, h5⟩)
  · rintro ⟨ex, ds, g'⟩ ⟨rfl, q2, b1, b2, b3, c, rfl, k1, k2, k3, k4⟩
    simp only at q2
    subst q2
    exact K c b1 b2 b3 k1 k2 k3 k4
theorem wL0 {g : Hp} {o N : Nat} {L : List (Str × Str)} (hN : N ≤ 1000000000) (hlen : L.length = N) (ho : g[o]? = some (.row ty109 2 (L.map fld))) (cmp : D) (p a b : Nat) (q : Nat → Prop) (hmb : a ≤ b) (hbp : b ≤ p + 1) (hbN : b ≤ N) (hpN : p < a + N)
    (hc : ∀ t y z, a ≤ t → t < b → L[t]? = some y → L[p - t]? = some z → ∃ v, callV R cmp [.agg (fld z), .agg (fld y)] g = some (.int .i64 v, g) ∧ (¬ v < 0 ↔ q t)) (x1 x2 x3 : D) {β : Type} {f : Out → Option β} {Q : β → Prop}
    (K : ∀ (c : Nat) b1 b2 b3, a ≤ c → c ≤ b → (c = a ∨ q (c - 1)) → (c = b ∨ ¬ q c) → Wp (f (.ext 8, [.int .i64 (c : Int), .int .i64 (c : Int), b1, b2, b3], g)) Q) : Wp ((loopW (F1066_L0 (.msl 2 o 0 N) cmp (.int .i64 (p : Int))) [.int .i64 (a : Int), .int .i64 (b : Int), x1, x2, x3] g).bind f) Q := by
  refine Wp.loop (fun kk ds g' => g' = g ∧ ∃ y1 y2 y3, ∃ i j : Nat, ds = [.int .i64 (i : Int), .int .i64 (j : Int), y1, y2, y3] ∧ kk = j - i ∧ a ≤ i ∧ i ≤ j ∧ j ≤ b ∧ (i = a ∨ q (i - 1)) ∧ (j = b ∨ ¬ q j))
    (fun r => r.1 = .ext 8 ∧ r.2.2 = g ∧ ∃ b1 b2 b3, ∃ c : Nat, r.2.1 = [.int .i64 (c : Int), .int .i64 (c : Int), b1, b2, b3] ∧ a ≤ c ∧ c ≤ b ∧ (c = a ∨ q (c - 1)) ∧ (c = b ∨ ¬ q c)) (b - a) ⟨rfl, _, _, _, a, b, rfl, rfl, Nat.le_refl _, hmb, Nat.le_refl _, .inl rfl, .inl rfl⟩ ?_ ?_
  · rintro kk ds g' ⟨rfl, y1, y2, y3, i, j, rfl, hk, h1, h2, h3, h4, h5⟩
    simp only [F1066_L0, nth_zero, nth_succ, bs, Option.bind_assoc, dBin_lss]
    refine Wp.dif ?_ ?_
    · intro h0
      have h0 : i < j := by have : (i : Int) < (j : Int) := by simpa using h0
                            omega
      obtain ⟨u1, u2, u3, u4⟩ := @mid_ok i j (by omega) (by omega)
      obtain ⟨y, hy⟩ : ∃ y, L[(i + j) / 2]? = some y := ⟨_, List.getElem?_eq_getElem (by omega)⟩
      obtain ⟨z, hz⟩ : ∃ z, L[p - (i + j) / 2]? = some z := ⟨_, List.getElem?_eq_getElem (by omega)⟩
      obtain ⟨v, hv, hvc⟩ := hc ((i + j) / 2) y z (by omega) (by omega) hy hz
      have ia := @ix29n o N ((i + j) / 2) (by omega)
      have ib := @ix29n o N (p - (i + j) / 2) (by omega)
      have la := fldL ho hy
      have lb := fldL ho hz
      have wp' : IntKind.wrap .i64 ((p : Int) - (((i + j) / 2 : Nat) : Int)) = ((p - (i + j) / 2 : Nat) : Int) := by rw [wrap_i64 (by omega) (by omega)]; omega
      have w1 : IntKind.wrap .i64 ((((i + j) / 2 : Nat) : Int) + 1) = (((i + j) / 2 + 1 : Nat) : Int) := by rw [wrap_i64 (by omega) (by omega)]; omega
      simp only [dBin_add, u1, cv3_134, u2, dBin_shr, show ¬ (1 : Int) < 0 by omega, if_false, u3, cv134_3, u4, dBin_sub, wp', ia, ib, la, lb, hv, bs, dBin_lss, dUn_not, Option.bind_assoc]
      by_cases hlt : v < 0
      · have := fun h => (hvc.2 h) hlt
        simp only [hlt, decide_true, Bool.not_true, dIf_bool, Bool.false_eq_true, if_false, bs, unblk_nrm, nth_zero, nth_succ]
        exact .some (.inl ⟨rfl, (i + j) / 2 - i, by omega, rfl, _, _, _, _, _, rfl, rfl, by omega, by omega, by omega, h4, .inr this⟩)
      · have := hvc.1 hlt
        simp only [hlt, decide_false, Bool.not_false, dIf_bool, if_true, w1, bs, unblk_nrm, nth_zero, nth_succ]
        exact .some (.inl ⟨rfl, j - ((i + j) / 2 + 1), by omega, rfl, _, _, _, _, _, rfl, rfl, by omega, by omega, by omega, .inr (by simpa using this), h5⟩)
    · intro h0
      have h0 : ¬ i < j := by have : ¬ (i : Int) < (j : Int) := by simpa using h0
                              omega
      obtain rfl : j = i := by omega
      exact .some (.inr ⟨by simp, rfl, rfl, _, _, _, j, rfl, h1, h3, h4, h5⟩)
  · rintro ⟨ex, ds, g'⟩ ⟨rfl, q2, b1, b2, b3, c, rfl, k1, k2, k3, k4⟩
    simp only at q2
    subst q2
    exact K c b1 b2 b3 k1 k2 k3 k4
def CmpF (cmp : D) (c : Str × Str → Str × Str → Int) : Prop := ∀ x y g, callV R cmp [.agg (fld x), .agg (fld y)] g = some (.int .i64 (c x y), g)
theorem w1066a {g : Hp} {o N : Nat} {P B Q : List (Str × Str)} {x : Str × Str} (hN : N ≤ 1000000000) (hlen : (P ++ x :: B ++ Q).length = N) (ho : g[o]? = some (.row ty109 2 ((P ++ x :: B ++ Q).map fld))) (cmp : D) (c : Str × Str → Str × Str → Int) (hcmp : CmpF cmp c) (a m b : Int) (ha : a = (P.length : Nat)) (hm : m = (P.length + 1 : Nat)) (hb : b = (P.length + 1 + B.length : Nat)) {β : Type} {f : D × Hp → Option β} {R1 : β → Prop}
    (K : ∀ g' B1 B2, B = B1 ++ B2 → (B1 = [] ∨ ∃ y r, B1 = r ++ [y] ∧ c y x < 0) → (B2 = [] ∨ ∃ y r, B2 = y :: r ∧ ¬ c y x < 0) → g'[o]? = some (.row ty109 2 ((P ++ (B1 ++ x :: B2) ++ Q).map fld)) → Same o g g' → Wp (f (mkRes [], g')) R1) : Wp ((R fn1066 [.msl 2 o 0 N, .int .i64 a, .int .i64 m, .int .i64 b, cmp] g).bind f) R1 := by
  subst ha hm hb
  have hl := hlen
  simp only [List.length_append, List.length_cons] at hl
  have w1 : IntKind.wrap .i64 (((P.length + 1 : Nat) : Int) - (P.length : Int)) = 1 := by rw [wrap_i64 (by omega) (by omega)]; omega
  have gx : (P ++ x :: B ++ Q)[P.length]? = some x := by
    rw [show P ++ x :: B ++ Q = P ++ x :: (B ++ Q) by simp]
    exact get_midn _ _ x _ rfl
  have gB : ∀ t, (P ++ x :: B ++ Q)[P.length + 1 + t]? = (B ++ Q)[t]? := fun t => by
    rw [show P ++ x :: B ++ Q = (P ++ [x]) ++ (B ++ Q) by simp, List.getElem?_append_right (by simp)]
    simp [-bind_some]
  rw [e1066]
  simp only [F1066, bs, Option.bind_assoc, dBin_sub, w1, dBin_eql, decide_true, dIf_bool, if_true]
  refine wL3 hN hlen ho cmp P.length (P.length + 1) (P.length + 1 + B.length) (fun t => ∃ y, (P ++ x :: B ++ Q)[t]? = some y ∧ c y x < 0) (by omega) (by omega) (by omega) x gx (fun t y _ _ hy => ⟨c y x, hcmp y x g, fun h => ⟨y, hy, h⟩, fun ⟨y', h1, h2⟩ => by rw [hy] at h1; injection h1 with h1; rw [h1]; exact h2⟩) _ _ _ fun k b1 b2 b3 k1 k2 k3 k4 => ?_
  obtain ⟨t, rfl⟩ : ∃ t, k = P.length + 1 + t := ⟨k - (P.length + 1), by omega⟩
  have htB : t ≤ B.length := by omega
  simp only [unblk_self, toEnd_nrm, bs, nth_zero, nth_succ, Option.bind_assoc]
  have eL : P ++ x :: B ++ Q = P ++ x :: B.take t ++ (B.drop t ++ Q) := by
    simp only [List.append_assoc, List.cons_append]
    rw [← List.append_assoc (B.take t), List.take_append_drop]
  have htl : (B.take t).length = t := by simp; omega
  refine wL4 (P := P) (A := B.take t) (Q := B.drop t ++ Q) (x := x) hN (by rw [← eL]; exact hlen) (by rw [← eL]; exact ho) _ (by rw [htl]; show D.int _ _ = _; congr 1; omega) _ rfl _ fun g1 c1 c2 p1 s1' => ?_
  simp only [unblk_self, toEnd_nrm, bs]
  refine K g1 (B.take t) (B.drop t) (List.take_append_drop _ _).symm ?_ ?_ (by rw [p1]; simp [-bind_some]) s1'
  · rcases Nat.eq_zero_or_pos t with rfl | hpos
    · exact .inl (by simp)
    · right
      rcases k3 with k3 | ⟨y, hy, hlt⟩
      · omega
      · rw [show P.length + 1 + t - 1 = P.length + 1 + (t - 1) by omega, gB, List.getElem?_append_left (by omega)] at hy
        refine ⟨y, B.take (t - 1), ?_, hlt⟩
        conv => lhs; rw [show t = (t - 1) + 1 by omega, List.take_add_one, hy]
        simp [-bind_some]
  · rcases Nat.lt_or_ge t B.length with hlt | hge
    · right
      obtain ⟨y, hy⟩ : ∃ y, B[t]? = some y := ⟨_, List.getElem?_eq_getElem hlt⟩
      rcases k4 with k4 | k4
      · omega
      · refine ⟨y, B.drop (t + 1), ?_, fun h => k4 ⟨y, by rw [gB, List.getElem?_append_left hlt]; exact hy, h⟩⟩
        obtain ⟨hn, hh⟩ := List.getElem?_eq_some_iff.1 hy
        rw [List.drop_eq_getElem_cons hn, hh]
    · exact .inl (List.drop_eq_nil_of_le hge)
theorem w1066b {g : Hp} {o N : Nat} {P A Q : List (Str × Str)} {x : Str × Str} (hN : N ≤ 1000000000) (hlen : (P ++ A ++ x :: Q).length = N) (hA1 : A.length ≠ 1) (ho : g[o]? = some (.row ty109 2 ((P ++ A ++ x :: Q).map fld))) (cmp : D) (c : Str × Str → Str × Str → Int) (hcmp : CmpF cmp c) (a m b : Int) (ha : a = (P.length : Nat)) (hm : m = (P.length + A.length : Nat)) (hb : b = (P.length + A.length + 1 : Nat)) {β : Type} {f : D × Hp → Option β} {R1 : β → Prop}
    (K : ∀ g' A1 A2, A = A1 ++ A2 → (A1 = [] ∨ ∃ y r, A1 = r ++ [y] ∧ ¬ c x y < 0) → (A2 = [] ∨ ∃ y r, A2 = y :: r ∧ c x y < 0) → g'[o]? = some (.row ty109 2 ((P ++ (A1 ++ x :: A2) ++ Q).map fld)) → Same o g g' → Wp (f (mkRes [], g')) R1) : Wp ((R fn1066 [.msl 2 o 0 N, .int .i64 a, .int .i64 m, .int .i64 b, cmp] g).bind f) R1 := by
  subst ha hm hb
  have hl := hlen
  simp only [List.length_append, List.length_cons] at hl
  have w1 : IntKind.wrap .i64 (((P.length + A.length : Nat) : Int) - (P.length : Int)) = A.length := by rw [wrap_i64 (by omega) (by omega)]; omega
  have w2 : IntKind.wrap .i64 (((P.length + A.length + 1 : Nat) : Int) - ((P.length + A.length : Nat) : Int)) = 1 := by rw [wrap_i64 (by omega) (by omega)]; omega
  have hd1 : decide ((A.length : Int) = 1) = false := decide_eq_false (by omega)
  have gx : (P ++ A ++ x :: Q)[P.length + A.length]? = some x := get_midn _ _ x _ (by simp)
  have gA : ∀ t, t < A.length → (P ++ A ++ x :: Q)[P.length + t]? = A[t]? := fun t ht => by
    rw [List.append_assoc, List.getElem?_append_right (by simp), List.getElem?_append_left (by omega)]
    simp [-bind_some]
  rw [e1066]
  simp only [F1066, F1066_R0, bs, Option.bind_assoc, dBin_sub, w1, w2, dBin_eql, hd1, decide_true, dIf_bool, Bool.false_eq_true, if_false, if_true]
  refine wL1 hN hlen ho cmp (P.length + A.length) P.length (P.length + A.length) (fun t => ∃ y, (P ++ A ++ x :: Q)[t]? = some y ∧ ¬ c x y < 0) (by omega) (by omega) (by omega) x gx (fun t y _ _ hy => ⟨c x y, hcmp x y g, fun h => ⟨y, hy, h⟩, fun ⟨y', h1, h2⟩ => by rw [hy] at h1; injection h1 with h1; rw [h1]; exact h2⟩) _ _ _ fun k b1 b2 b3 k1 k2 k3 k4 => ?_
  obtain ⟨t, rfl⟩ : ∃ t, k = P.length + t := ⟨k - P.length, by omega⟩
  have htA : t ≤ A.length := by omega
  simp only [unblk_self, toEnd_nrm, bs, nth_zero, nth_succ, Option.bind_assoc]
  have htl : (A.take t).length = t := by simp; omega
  have eL : P ++ A ++ x :: Q = (P ++ A.take t) ++ A.drop t ++ x :: Q := by
    rw [List.append_assoc P (A.take t), List.take_append_drop]
  have hdl : (A.drop t).length = A.length - t := List.length_drop
  refine wL2 (P := P ++ A.take t) (A := A.drop t) (Q := Q) (x := x) hN (by rw [← eL]; exact hlen) (by rw [← eL]; exact ho) _ (by rw [List.length_append, htl]; rfl) _ (by rw [List.length_append, htl, hdl]; congr 1; omega) _ fun g1 c1 c2 p1 s1' => ?_
  simp only [unblk_self, toEnd_nrm, bs]
  refine K g1 (A.take t) (A.drop t) (List.take_append_drop _ _).symm ?_ ?_ (by rw [p1]; simp [-bind_some]) s1'
  · rcases Nat.eq_zero_or_pos t with rfl | hpos
    · exact .inl (by simp)
    · right
      rcases k3 with k3 | ⟨y, hy, hlt⟩
      · omega
      · rw [show P.length + t - 1 = P.length + (t - 1) by omega, gA _ (by omega)] at hy
        refine ⟨y, A.take (t - 1), ?_, hlt⟩
        conv => lhs; rw [show t = (t - 1) + 1 by omega, List.take_add_one, hy]
        simp [-bind_some]
  · rcases Nat.lt_or_ge t A.length with hlt | hge
    · right
      obtain ⟨y, hy⟩ : ∃ y, A[t]? = some y := ⟨_, List.getElem?_eq_getElem hlt⟩
      rcases k4 with k4 | k4
      · omega
      · refine ⟨y, A.drop (t + 1), ?_, Classical.byContradiction fun h => k4 ⟨y, by rw [gA _ hlt]; exact hy, h⟩⟩
        obtain ⟨hn, hh⟩ := List.getElem?_eq_some_iff.1 hy
        rw [List.drop_eq_getElem_cons hn, hh]
    · exact .inl (List.drop_eq_nil_of_le hge)
theorem getm {α : Type} (P A B : List α) (t : Nat) (h0 : P.length ≤ t) (h1 : t < P.length + A.length) : (P ++ A ++ B)[t]? = A[t - P.length]? := by
  rw [List.append_assoc, List.getElem?_append_right h0, List.getElem?_append_left (by omega)]
theorem last_of {α : Type} {A : List α} {t : Nat} {y : α} (ht : 0 < t) (hy : A[t - 1]? = some y) : ∃ r, A.take t = r ++ [y] := by
  refine ⟨A.take (t - 1), ?_⟩
  conv => lhs; rw [show t = (t - 1) + 1 by omega, List.take_add_one, hy]
  simp [-bind_some]
theorem first_of {α : Type} {A : List α} {t : Nat} {y : α} (hy : A[t]? = some y) : ∃ r, A.drop t = y :: r := by
  obtain ⟨hn, hh⟩ := List.getElem?_eq_some_iff.1 hy
  exact ⟨A.drop (t + 1), by rw [List.drop_eq_getElem_cons hn, hh]⟩
theorem and_lss (b1 : Bool) (a c : Int) (t : Nat) {β : Type} (f : D → Option β) : ((gd (.bool b1) true (some (.int .i64 a))).bind fun t2 => (gd (.bool b1) true (some (.int .i64 c))).bind fun t3 => (gd (.bool b1) true (dBin tab .lss t t2 t3)).bind fun t4 => (dPick (.bool b1) t4 (.bool false)).bind f) = f (.bool (b1 && decide (a < c))) := by
  cases b1
  · simp only [gd_bool, reduceCtorEq, if_false, bs, dPick_bool, Bool.false_eq_true, Bool.false_and]
  · simp only [gd_bool, if_true, bs, dPick_bool, dBin_lss, Bool.true_and]
def MergeOK (c : Str × Str → Str × Str → Int) (S Pre : Str × Str → Str × Str → Prop) (cmp : D) (o N n : Nat) : Prop :=
  ∀ (g : Hp) (P A B Q : List (Str × Str)) (a m b : Int), A.length + B.length ≤ n → (P ++ A ++ B ++ Q).length = N → 0 < A.length → 0 < B.length → A.Pairwise S → B.Pairwise S → (∀ x ∈ A, ∀ y ∈ B, Pre x y) →
    g[o]? = some (.row ty109 2 ((P ++ A ++ B ++ Q).map fld)) → a = (P.length : Nat) → m = (P.length + A.length : Nat) → b = (P.length + A.length + B.length : Nat) →
    Wp (R fn1066 [.msl 2 o 0 N, .int .i64 a, .int .i64 m, .int .i64 b, cmp] g) fun p => ∃ C : List (Str × Str), C.Perm (A ++ B) ∧ C.Pairwise S ∧ p.2[o]? = some (.row ty109 2 ((P ++ C ++ Q).map fld)) ∧ Same o g p.2
theorem cut_wp {g : Hp} {o N : Nat} {P A B Q : List (Str × Str)} (hN : N ≤ 1000000000) (hlen : (P ++ A ++ B ++ Q).length = N) (hA : 0 < A.length) (hB : 0 < B.length) (ho : g[o]? = some (.row ty109 2 ((P ++ A ++ B ++ Q).map fld))) (cmp : D) (c : Str × Str → Str × Str → Int) (hcmp : CmpF cmp c)
    (mid s0 r0 : Nat) (hmid : mid = (P.length + (P.length + A.length + B.length)) / 2) (hs : (P.length + A.length > mid ∧ s0 + B.length = mid ∧ r0 = mid) ∨ (P.length + A.length ≤ mid ∧ s0 = P.length ∧ r0 = P.length + A.length))
    (p : Int) (hp : p = (mid + (P.length + A.length) - 1 : Nat)) (x1 x2 x3 : D) {β : Type} {f : Out → Option β} {R1 : β → Prop}
    (K : ∀ (k : Nat) b1 b2 b3 A1 A2 B1 B2, A = A1 ++ A2 → B = B1 ++ B2 → k = P.length + A1.length → mid = P.length + A1.length + B1.length →
      (A1 = [] ∨ B2 = [] ∨ ∃ x y r s, A1 = r ++ [x] ∧ B2 = y :: s ∧ ¬ c y x < 0) → (A2 = [] ∨ B1 = [] ∨ ∃ x y r s, B1 = r ++ [y] ∧ A2 = x :: s ∧ c y x < 0) →
      Wp (f (.ext 8, [.int .i64 (k : Int), .int .i64 (k : Int), b1, b2, b3], g)) R1) : Wp ((loopW (F1066_L0 (.msl 2 o 0 N) cmp (.int .i64 p)) [.int .i64 (s0 : Int), .int .i64 (r0 : Int), x1, x2, x3] g).bind f) R1 := by
  subst hp
  have hl := hlen
  simp only [List.length_append] at hl
  have gA : ∀ t, P.length ≤ t → t < P.length + A.length → (P ++ A ++ B ++ Q)[t]? = A[t - P.length]? := fun t h0 h1 => by
    rw [List.append_assoc (P ++ A)]; exact getm P A _ t h0 h1
  have gB : ∀ t, P.length + A.length ≤ t → t < P.length + A.length + B.length → (P ++ A ++ B ++ Q)[t]? = B[t - (P.length + A.length)]? := fun t h0 h1 => by
    have := getm (P ++ A) B Q t (by simpa using h0) (by simpa using h1)
    simpa using this
  obtain ⟨q, hq⟩ : ∃ q : Nat → Prop, ∀ t, q t ↔ ∃ y z, (P ++ A ++ B ++ Q)[t]? = some y ∧ (P ++ A ++ B ++ Q)[mid + (P.length + A.length) - 1 - t]? = some z ∧ ¬ c z y < 0 := ⟨_, fun t => Iff.rfl⟩
  refine wL0 hN hlen ho cmp (mid + (P.length + A.length) - 1) s0 r0 q (by omega) (by omega) (by omega) (by omega)
    (fun t y z _ _ hy hz => ⟨c z y, hcmp z y g, fun h => (hq t).2 ⟨y, z, hy, hz, h⟩, fun hh => by
      obtain ⟨y', z', h1, h2, h3⟩ := (hq t).1 hh
      rw [hy] at h1; rw [hz] at h2; injection h1 with h1; injection h2 with h2; rw [h1, h2]; exact h3⟩) _ _ _ fun k b1 b2 b3 k1 k2 k3 k4 => ?_
  have hkA : k - P.length ≤ A.length := by omega
  have hkB : mid - k ≤ B.length := by omega
  have la : (A.take (k - P.length)).length = k - P.length := by simp; omega
  have lb : (B.take (mid - k)).length = mid - k := by simp; omega
  refine K k b1 b2 b3 (A.take (k - P.length)) (A.drop (k - P.length)) (B.take (mid - k)) (B.drop (mid - k)) (List.take_append_drop _ _).symm (List.take_append_drop _ _).symm (by omega) (by omega) ?_ ?_
  · rcases k3 with k3 | k3
    · rcases hs with ⟨h1, h2, h3⟩ | ⟨h1, h2, h3⟩
      · right; left
        exact List.drop_eq_nil_of_le (by omega)
      · left
        apply List.eq_nil_of_length_eq_zero
        omega
    · by_cases hk0 : k = P.length
      · left; apply List.eq_nil_of_length_eq_zero; omega
      · right
        by_cases hk1 : B.length ≤ mid - k
        · left; exact List.drop_eq_nil_of_le hk1
        · right
          obtain ⟨y, z, hy, hz, hlt⟩ := (hq _).1 k3
          rw [gA _ (by omega) (by omega)] at hy
          rw [gB _ (by omega) (by omega)] at hz
          obtain ⟨r, hr⟩ := last_of (A := A) (t := k - P.length) (y := y) (by omega) (by rw [← hy]; congr 1; omega)
          obtain ⟨s, hs'⟩ := first_of (A := B) (t := mid - k) (y := z) (by rw [← hz]; congr 1; omega)
          exact ⟨y, z, r, s, hr, hs', hlt⟩
  · by_cases hk0 : k = P.length + A.length
    · left; exact List.drop_eq_nil_of_le (by omega)
    · right
      by_cases hk1 : mid - k = 0
      · left; rw [hk1]; rfl
      · right
        rcases k4 with k4 | k4
        · omega
        · obtain ⟨y, hy⟩ : ∃ y, A[k - P.length]? = some y := ⟨_, List.getElem?_eq_getElem (by omega)⟩
          obtain ⟨z, hz⟩ : ∃ z, B[mid - k - 1]? = some z := ⟨_, List.getElem?_eq_getElem (by omega)⟩
          obtain ⟨r, hr⟩ := last_of (A := B) (t := mid - k) (y := z) (by omega) hz
          obtain ⟨s, hs'⟩ := first_of (A := A) (t := k - P.length) (y := y) hy
          refine ⟨y, z, r, s, hr, hs', Classical.byContradiction fun h => k4 ((hq _).2 ⟨y, z, ?_, ?_, h⟩)⟩
          · rw [gA _ (by omega) (by omega)]; exact hy
          · rw [gB _ (by omega) (by omega), ← hz]; congr 1; omega
theorem w1066r {c : Str × Str → Str × Str → Int} {S Pre : Str × Str → Str × Str → Prop} (od : SOrd c S Pre) {cmp : D} (hcmp : CmpF cmp c) {o N n : Nat} (hN : N ≤ 1000000000) (ih : MergeOK c S Pre cmp o N n)
    {g : Hp} {P A B Q : List (Str × Str)} {a m b : Int} (hn : A.length + B.length ≤ n + 1) (hlen : (P ++ A ++ B ++ Q).length = N) (hA : 0 < A.length) (hB : 0 < B.length) (sA : A.Pairwise S) (sB : B.Pairwise S) (hp : ∀ x ∈ A, ∀ y ∈ B, Pre x y)
    (ho : g[o]? = some (.row ty109 2 ((P ++ A ++ B ++ Q).map fld))) (ha : a = (P.length : Nat)) (hm : m = (P.length + A.length : Nat)) (hb : b = (P.length + A.length + B.length : Nat)) :
    Wp (F1066_R1 (.msl 2 o 0 N) (.int .i64 a) (.int .i64 m) (.int .i64 b) cmp g) fun p => ∃ C : List (Str × Str), C.Perm (A ++ B) ∧ C.Pairwise S ∧ p.2[o]? = some (.row ty109 2 ((P ++ C ++ Q).map fld)) ∧ Same o g p.2 := by
  have hl := hlen
  simp only [List.length_append] at hl
  obtain ⟨mid, hmid⟩ : ∃ mid : Nat, mid = (P.length + (P.length + A.length + B.length)) / 2 := ⟨_, rfl⟩
  obtain ⟨mm, hmm⟩ : ∃ mm : Nat, mm = P.length + A.length := ⟨_, rfl⟩
  obtain ⟨bb, hbb⟩ : ∃ bb : Nat, bb = P.length + A.length + B.length := ⟨_, rfl⟩
  rw [← hmm] at hm
  rw [← hbb] at hb
  subst ha hm hb
  obtain ⟨u1, u2, u3, u4⟩ := @mid_ok P.length bb (by omega) (by omega)
  rw [← show mid = (P.length + bb) / 2 by rw [hmid, hbb]] at u3 u4
  have w1 : IntKind.wrap .i64 ((mid : Int) + (mm : Int)) = ((mid + mm : Nat) : Int) := by rw [wrap_i64 (by omega) (by omega)]; omega
  have w2 : IntKind.wrap .i64 (((mid + mm : Nat) : Int) - 1) = ((mid + (P.length + A.length) - 1 : Nat) : Int) := by rw [wrap_i64 (by omega) (by omega)]; omega
  simp only [F1066_R1, bs, Option.bind_assoc, dBin_add, u1, cv3_134, u2, dBin_shr, show ¬ (1 : Int) < 0 by omega, if_false, u3, cv134_3, u4, w1, dBin_gtr]
  refine Wp.join (P := fun r => r.1 = .nrm ∧ r.2.2 = g ∧ ∃ s0 r0 : Nat, r.2.1 = [.int .i64 (s0 : Int), .int .i64 (r0 : Int)] ∧ ((P.length + A.length > mid ∧ s0 + B.length = mid ∧ r0 = mid) ∨ (P.length + A.length ≤ mid ∧ s0 = P.length ∧ r0 = P.length + A.length))) ?_ ?_ ?_
  · intro h0
    have h0 : mid < mm := by have : (mm : Int) > (mid : Int) := by simpa using h0
                             omega
    have w3 : IntKind.wrap .i64 (((mid + mm : Nat) : Int) - (bb : Int)) = ((mid - B.length : Nat) : Int) := by rw [wrap_i64 (by omega) (by omega)]; omega
    simp only [dBin_sub, w3, bs]
    exact .some ⟨rfl, rfl, mid - B.length, mid, rfl, .inl ⟨by omega, by omega, rfl⟩⟩
  · intro h0
    have h0 : ¬ mid < mm := by have : ¬ (mm : Int) > (mid : Int) := by simpa using h0
                               omega
    exact .some ⟨rfl, rfl, P.length, mm, rfl, .inr ⟨by omega, rfl, hmm⟩⟩
  rintro ⟨ex, ds, g'⟩ ⟨rfl, q2, s0, r0, rfl, hs⟩
  simp only at q2
  subst q2
  simp only [toEnd_nrm, dBin_sub, w2, bs, nth_zero, nth_succ, Option.bind_assoc]
  refine cut_wp hN hlen hA hB ho cmp c hcmp mid s0 r0 hmid hs _ rfl _ _ _ fun k b1 b2 b3 A1 A2 B1 B2 eA eB ek em h1 h2 => ?_
  subst eA eB
  simp only [List.length_append] at *
  have w4 : IntKind.wrap .i64 (((mid + mm : Nat) : Int) - (k : Int)) = ((mm + B1.length : Nat) : Int) := by rw [wrap_i64 (by omega) (by omega)]; omega
  simp only [unblk_self, toEnd_nrm, bs, nth_zero, nth_succ, Option.bind_assoc, dBin_sub, w4, dBin_lss, and_lss]
  rw [List.pairwise_append] at sA sB
  -- the rotation
  refine Wp.bind (P := fun r => r.1 = .nrm ∧ r.2.2[o]? = some (.row ty109 2 ((P ++ A1 ++ B1 ++ A2 ++ B2 ++ Q).map fld)) ∧ Same o g' r.2.2) ?_ ?_
  · by_cases c1 : 0 < A2.length
    · have d1 : decide ((k : Int) < (mm : Int)) = true := decide_eq_true (by omega)
      by_cases c2 : 0 < B1.length
      · have d2 : decide ((mm : Int) < ((mm + B1.length : Nat) : Int)) = true := decide_eq_true (by omega)
        simp only [d1, d2, Bool.and_self, dIf_bool, if_true]
        refine w1068 (P := P ++ A1) (U := A2) (V := B1) (Q := B2 ++ Q) hN (by simp only [List.length_append]; omega) c1 c2 (by rw [ho]; simp [-bind_some]) cmp _ _ _ (by simp only [List.length_append]; omega) (by simp only [List.length_append]; omega) (by simp only [List.length_append]; omega) fun g1 p1 s1 => ?_
        exact .some ⟨rfl, by simp only [p1]; simp [-bind_some], s1⟩
      · have e2 : B1 = [] := List.eq_nil_of_length_eq_zero (by omega)
        subst e2
        have d2 : decide ((mm : Int) < ((mm + ([] : List (Str × Str)).length : Nat) : Int)) = false := decide_eq_false (by simp)
        simp only [d1, d2, Bool.and_false, dIf_bool, Bool.false_eq_true, if_false]
        exact .some ⟨rfl, by simp only [ho]; simp [-bind_some], .refl _ _⟩
    · have e2 : A2 = [] := List.eq_nil_of_length_eq_zero (by omega)
      subst e2
      have d1 : decide ((k : Int) < (mm : Int)) = false := decide_eq_false (by simp only [List.length_nil] at *; omega)
      simp only [d1, Bool.false_and, dIf_bool, Bool.false_eq_true, if_false]
      exact .some ⟨rfl, by simp only [ho]; simp [-bind_some], .refl _ _⟩
  rintro ⟨ex, ds, g1⟩ ⟨rfl, p1, s1⟩
  simp only [toEnd_nrm, bs, Option.bind_assoc, dBin_lss, and_lss]
  -- the first half
  refine Wp.bind (P := fun r => r.1 = .nrm ∧ ∃ C1 : List (Str × Str), C1.Perm (A1 ++ B1) ∧ C1.Pairwise S ∧ r.2.2[o]? = some (.row ty109 2 ((P ++ C1 ++ (A2 ++ B2 ++ Q)).map fld)) ∧ Same o g' r.2.2) ?_ ?_
  · by_cases c1 : 0 < A1.length
    · have d1 : decide (((P.length : Nat) : Int) < (k : Int)) = true := decide_eq_true (by omega)
      by_cases c2 : 0 < B1.length
      · have d2 : decide ((k : Int) < (mid : Int)) = true := decide_eq_true (by omega)
        simp only [d1, d2, Bool.and_self, dIf_bool, if_true]
        refine Wp.bind (ih g1 P A1 B1 (A2 ++ B2 ++ Q) _ _ _ (by omega) (by simp only [List.length_append]; omega) c1 c2 sA.1 sB.1 (fun x hx y hy => hp x (by simp [-bind_some, hx]) y (by simp [-bind_some, hy])) (by rw [p1]; simp [-bind_some]) rfl (by omega) (by omega)) ?_
        rintro ⟨d, g2⟩ ⟨C, q1, q2, q3, q4⟩
        exact .some ⟨rfl, C, q1, q2, q3, s1.trans q4⟩
      · have e2 : B1 = [] := List.eq_nil_of_length_eq_zero (by omega)
        subst e2
        have d2 : decide ((k : Int) < (mid : Int)) = false := decide_eq_false (by simp only [List.length_nil] at *; omega)
        simp only [d1, d2, Bool.and_false, dIf_bool, Bool.false_eq_true, if_false]
        exact .some ⟨rfl, A1, by simp, sA.1, by simp only [p1]; simp [-bind_some], s1⟩
    · have e2 : A1 = [] := List.eq_nil_of_length_eq_zero (by omega)
      subst e2
      have d1 : decide (((P.length : Nat) : Int) < (k : Int)) = false := decide_eq_false (by simp only [List.length_nil] at *; omega)
      simp only [d1, Bool.false_and, dIf_bool, Bool.false_eq_true, if_false]
      exact .some ⟨rfl, B1, by simp, sB.1, by simp only [p1]; simp [-bind_some], s1⟩
  rintro ⟨ex, ds, g2⟩ ⟨rfl, C1, r1, r2, p2, s2⟩
  have lC1 : C1.length = A1.length + B1.length := by rw [r1.length_eq]; simp [-bind_some]
  simp only [toEnd_nrm, bs, Option.bind_assoc, dBin_lss, and_lss]
  -- the second half
  refine Wp.bind (P := fun r => r.1 = .nrm ∧ ∃ C2 : List (Str × Str), C2.Perm (A2 ++ B2) ∧ C2.Pairwise S ∧ r.2.2[o]? = some (.row ty109 2 ((P ++ (C1 ++ C2) ++ Q).map fld)) ∧ Same o g' r.2.2) ?_ ?_
  · by_cases c1 : 0 < A2.length
    · have d1 : decide ((mid : Int) < ((mm + B1.length : Nat) : Int)) = true := decide_eq_true (by omega)
      by_cases c2 : 0 < B2.length
      · have d2 : decide (((mm + B1.length : Nat) : Int) < (bb : Int)) = true := decide_eq_true (by omega)
        simp only [d1, d2, Bool.and_self, dIf_bool, if_true]
        refine Wp.bind (ih g2 (P ++ C1) A2 B2 Q _ _ _ (by omega) (by simp only [List.length_append]; omega) c1 c2 sA.2.1 sB.2.1 (fun x hx y hy => hp x (by simp [-bind_some, hx]) y (by simp [-bind_some, hy])) (by rw [p2]; simp [-bind_some]) (by simp only [List.length_append]; omega) (by simp only [List.length_append]; omega) (by simp only [List.length_append]; omega)) ?_
        rintro ⟨d, g3⟩ ⟨C, q1, q2, q3, q4⟩
        exact .some ⟨rfl, C, q1, q2, by rw [q3]; simp [-bind_some], s2.trans q4⟩
      · have e2 : B2 = [] := List.eq_nil_of_length_eq_zero (by omega)
        subst e2
        have d2 : decide (((mm + B1.length : Nat) : Int) < (bb : Int)) = false := decide_eq_false (by simp only [List.length_nil] at *; omega)
        simp only [d1, d2, Bool.and_false, dIf_bool, Bool.false_eq_true, if_false]
        exact .some ⟨rfl, A2, by simp, sA.2.1, by simp only [p2]; simp [-bind_some], s2⟩
    · have e2 : A2 = [] := List.eq_nil_of_length_eq_zero (by omega)
      subst e2
      have d1 : decide ((mid : Int) < ((mm + B1.length : Nat) : Int)) = false := decide_eq_false (by simp only [List.length_nil] at *; omega)
      simp only [d1, Bool.false_and, dIf_bool, Bool.false_eq_true, if_false]
      exact .some ⟨rfl, B2, by simp, sB.2.1, by simp only [p2]; simp [-bind_some], s2⟩
  rintro ⟨ex, ds, g3⟩ ⟨rfl, C2, r3, r4, p3, s3⟩
  simp only [exEnd_nrm, bs]
  obtain ⟨v1, v2⟩ := halves od (List.pairwise_append.2 sA) (List.pairwise_append.2 sB) hp h1 h2 r1 r2 r3 r4
  exact .some ⟨C1 ++ C2, v1, v2, p3, s3⟩
theorem w1066 {c : Str × Str → Str × Str → Int} {S Pre : Str × Str → Str × Str → Prop} (od : SOrd c S Pre) {cmp : D} (hcmp : CmpF cmp c) {o N : Nat} (hN : N ≤ 1000000000) : ∀ n, MergeOK c S Pre cmp o N n
  | 0 => fun g P A B Q a m b h0 _ h1 => by omega
  | n + 1 => fun g P A B Q a m b h0 hlen hA hB sA sB hp ho ha hm hb => by
    have ih := w1066 od hcmp (o := o) hN n
    have hl := hlen
    simp only [List.length_append] at hl
    by_cases c1 : A.length = 1
    · obtain ⟨x, rfl⟩ := List.length_eq_one_iff.1 c1
      have := w1066a (g := g) (o := o) (N := N) (P := P) (B := B) (Q := Q) (x := x) hN (by simpa using hlen) (by simpa using ho) cmp c hcmp a m b ha (by rw [hm]; rfl) (by rw [hb]; rfl) (f := some) (R1 := fun p => ∃ C : List (Str × Str), C.Perm ([x] ++ B) ∧ C.Pairwise S ∧ p.2[o]? = some (.row ty109 2 ((P ++ C ++ Q).map fld)) ∧ Same o g p.2)
        (fun g' B1 B2 e h1 h2 p1 s1 => .some ⟨B1 ++ x :: B2, by rw [e]; exact List.perm_middle, by
          subst e
          rw [List.pairwise_append] at sB ⊢
          refine ⟨sB.1, List.pairwise_cons.2 ⟨?_, sB.2.1⟩, ?_⟩
          · rcases h2 with rfl | ⟨y, r, rfl, hy⟩
            · intro z hz; cases hz
            · have hxy := od.ge x y (hp x (by simp) y (by simp)) hy
              intro z hz
              rcases List.mem_cons.1 hz with rfl | hz
              · exact hxy
              · exact od.tr _ _ _ hxy ((List.pairwise_cons.1 sB.2.1).1 z hz)
          · have hx1 : ∀ u ∈ B1, S u x := by
              rcases h1 with rfl | ⟨y, r, rfl, hy⟩
              · intro z hz; cases hz
              · have hyx := od.lt x y (hp x (by simp) y (by simp)) hy
                intro z hz
                rcases List.mem_append.1 hz with hz | hz
                · exact od.tr _ _ _ ((List.pairwise_append.1 sB.1).2.2 z hz y (by simp)) hyx
                · simp at hz; subst hz; exact hyx
            intro u hu v hv
            rcases List.mem_cons.1 hv with rfl | hv
            · exact hx1 u hu
            · exact sB.2.2 u hu v hv, by rw [p1], s1⟩)
      rwa [show ∀ x : Option (D × Hp), x.bind some = x from fun x => by cases x <;> rfl] at this
    · by_cases c2 : B.length = 1
      · obtain ⟨x, rfl⟩ := List.length_eq_one_iff.1 c2
        have := w1066b (g := g) (o := o) (N := N) (P := P) (A := A) (Q := Q) (x := x) hN (by simpa using hlen) c1 (by simpa using ho) cmp c hcmp a m b ha (by rw [hm]) (by rw [hb]; rfl) (f := some) (R1 := fun p => ∃ C : List (Str × Str), C.Perm (A ++ [x]) ∧ C.Pairwise S ∧ p.2[o]? = some (.row ty109 2 ((P ++ C ++ Q).map fld)) ∧ Same o g p.2)
          (fun g' A1 A2 e h1 h2 p1 s1 => .some ⟨A1 ++ x :: A2, by rw [e]; exact List.perm_middle.trans (by simpa using (List.perm_append_comm (l₁ := [x]) (l₂ := A1 ++ A2))), pw_ins od (by rw [← e]; exact sA) (fun y hy => hp y (by rw [e]; exact hy) x (by simp)) h2 h1, by rw [p1], s1⟩)
        rwa [show ∀ x : Option (D × Hp), x.bind some = x from fun x => by cases x <;> rfl] at this
      · have r := w1066r od hcmp hN ih h0 hlen hA hB sA sB hp ho ha hm hb
        rw [e1066]
        have v1 : IntKind.wrap .i64 (m - a) = (A.length : Int) := by rw [hm, ha, wrap_i64 (by omega) (by omega)]; omega
        have v2 : IntKind.wrap .i64 (b - m) = (B.length : Int) := by rw [hm, hb, wrap_i64 (by omega) (by omega)]; omega
        have d1 : decide ((A.length : Int) = 1) = false := decide_eq_false (by omega)
        have d2 : decide ((B.length : Int) = 1) = false := decide_eq_false (by omega)
        simp only [F1066, F1066_R0, bs, dBin_sub, v1, v2, dBin_eql, d1, d2, dIf_bool, Bool.false_eq_true, if_false]
        exact r
theorem Blk.len {α : Type} {S Pre : α → α → Prop} {k : Nat} {l : List α} (h : Blk S Pre k l) (hl : l.length < k) : l.Pairwise S := h.all (by omega)
theorem pre_split {α : Type} {Pre : α → α → Prop} {A B : List α} (h : (A ++ B).Pairwise Pre) : A.Pairwise Pre ∧ B.Pairwise Pre ∧ ∀ x ∈ A, ∀ y ∈ B, Pre x y := List.pairwise_append.1 h
theorem ins_wp {c : Str × Str → Str × Str → Int} {S Pre : Str × Str → Str × Str → Prop} (od : SOrd c S Pre) {cmp : D} (hcmp : CmpF cmp c) {o N : Nat} (hN : N ≤ 1000000000) {g : Hp} {P A Q : List (Str × Str)} (hlen : (P ++ A ++ Q).length = N) (hA : A.Pairwise Pre)
    (ho : g[o]? = some (.row ty109 2 ((P ++ A ++ Q).map fld))) (a b : Int) (ha : a = P.length) (hb : b = (P.length + A.length : Nat)) :
    Wp (R fn1065 [.msl 2 o 0 N, .int .i64 a, .int .i64 b, cmp] g) fun p => ∃ C : List (Str × Str), C.Perm A ∧ C.Pairwise S ∧ p.2[o]? = some (.row ty109 2 ((P ++ C ++ Q).map fld)) ∧ Same o g p.2 := by
  subst ha hb
  have hl := hlen
  simp only [List.length_append] at hl
  obtain ⟨d, h', e, p1, s1⟩ := s1065 c cmp hcmp o N P.length (P.length + A.length) hN (by omega) (by omega) _ hlen g ho
  refine ⟨(d, h'), e, ?_⟩
  cases A with
  | nil =>
    refine ⟨[], by simp, List.Pairwise.nil, ?_, s1⟩
    rw [p1]
    simp [-bind_some, isr]
  | cons x A =>
    obtain ⟨C, q1, q2, q3⟩ := isr_ok od P Q A [x] (by simp) (fun u hu v hv => by simp at hu; subst hu; exact (List.pairwise_cons.1 hA).1 v hv) (List.pairwise_cons.1 hA).2
    refine ⟨C, q2, q3, ?_, s1⟩
    rw [p1]
    have e1 : P.length + (x :: A).length - (P.length + 1) = A.length := by simp; omega
    rw [e1]
    have e2 : P ++ x :: A ++ Q = P ++ [x] ++ A ++ Q := by simp
    rw [e2]
    exact congrArg (fun z : List (Str × Str) => some (Ob.row ty109 2 (z.map fld))) q1
theorem w1063 {c : Str × Str → Str × Str → Int} {S Pre : Str × Str → Str × Str → Prop} (od : SOrd c S Pre) {cmp : D} (hcmp : CmpF cmp c) {o N : Nat} (hN : N ≤ 1000000000) {g : Hp} {l : List (Str × Str)} (hl : l.length = N) (hpre : l.Pairwise Pre)
    (ho : g[o]? = some (.row ty109 2 (l.map fld))) : Wp (R fn1063 [.msl 2 o 0 N, .int .i64 N, cmp] g) fun p => ∃ C : List (Str × Str), C.Perm l ∧ C.Pairwise S ∧ p.2[o]? = some (.row ty109 2 (C.map fld)) ∧ Same o g p.2 := by
  rw [e1063]
  simp only [F1063, bs, Option.bind_assoc]
  refine Wp.loop (fun n ds g' => ∃ u, ∃ X Y : List (Str × Str), ds = [.int .i64 (X.length : Nat), .int .i64 ((X.length + 20 : Nat) : Int), u] ∧ n = Y.length ∧ (X ++ Y).Perm l ∧ Y.Pairwise Pre ∧ CtxB S Pre 20 X Y ∧ g'[o]? = some (.row ty109 2 ((X ++ Y).map fld)) ∧ Same o g g')
    (fun r => r.1 = .ext 0 ∧ ∃ u, ∃ X Y : List (Str × Str), r.2.1 = [.int .i64 (X.length : Nat), .int .i64 ((X.length + 20 : Nat) : Int), u] ∧ Y.length < 20 ∧ (X ++ Y).Perm l ∧ Y.Pairwise Pre ∧ CtxB S Pre 20 X Y ∧ r.2.2[o]? = some (.row ty109 2 ((X ++ Y).map fld)) ∧ Same o g r.2.2)
    l.length ⟨_, [], l, rfl, rfl, by simp, hpre, CtxB.nil, by simpa using ho, .refl _ _⟩ ?_ ?_
  · rintro n ds g' ⟨u, X, Y, rfl, rfl, hp, hY, hc, ho', sm⟩
    have hXY : X.length + Y.length = N := by rw [← hl, ← hp.length_eq]; simp [-bind_some]
    simp only [F1063_L0, nth_zero, nth_succ, bs, Option.bind_assoc, dBin_leq]
    refine Wp.dif ?_ ?_
    · intro h0
      have h0 : 20 ≤ Y.length := by have : ((X.length + 20 : Nat) : Int) ≤ (N : Int) := by simpa using h0
                                    omega
      obtain ⟨A, Y', rfl, hA⟩ : ∃ A Y', Y = A ++ Y' ∧ A.length = 20 := ⟨Y.take 20, Y.drop 20, (List.take_append_drop _ _).symm, by simp; omega⟩
      obtain ⟨y1, y2, y3⟩ := pre_split hY
      simp only [List.length_append] at hXY h0
      refine Wp.bind (ins_wp od hcmp hN (P := X) (A := A) (Q := Y') (by simp only [List.length_append]; omega) y1 (by rw [ho']; simp [-bind_some]) _ _ rfl (by omega)) ?_
      rintro ⟨d, g2⟩ ⟨C, q1, q2, q3, q4⟩
      have lC : C.length = 20 := by rw [q1.length_eq, hA]
      have w1 : IntKind.wrap .i64 (((X.length + 20 : Nat) : Int) + 20) = ((X.length + 20 + 20 : Nat) : Int) := by rw [wrap_i64 (by omega) (by omega)]; omega
      simp only [dBin_add, w1, bs]
      have eX : (X ++ C).length = X.length + 20 := by simp [-bind_some, lC]
      refine .some (.inl ⟨rfl, Y'.length, by simp only [List.length_append]; omega, _, X ++ C, Y', by rw [eX], rfl, ?_, y2, hc.step q1 lC q2 y3, q3, sm.trans q4⟩)
      refine List.Perm.trans ?_ hp
      rw [List.append_assoc]
      exact (q1.append_right Y').append_left X
    · intro h0
      have h0 : ¬ 20 ≤ Y.length := by have : ¬ ((X.length + 20 : Nat) : Int) ≤ (N : Int) := by simpa using h0
                                      omega
      exact .some (.inr ⟨by simp, rfl, _, X, Y, rfl, by omega, hp, hY, hc, ho', sm⟩)
  rintro ⟨ex, ds, g1⟩ ⟨rfl, u, X, Y, rfl, hYl, hp, hY, hc, ho1, s1⟩
  have hXY : X.length + Y.length = N := by rw [← hl, ← hp.length_eq]; simp [-bind_some]
  simp only [unblk_self, toEnd_nrm, nth_zero, nth_succ, bs]
  refine Wp.bind (ins_wp od hcmp hN (P := X) (A := Y) (Q := []) (by simp only [List.length_append, List.length_nil]; omega) hY (by simpa using ho1) _ _ rfl (by omega)) ?_
  rintro ⟨d, g2⟩ ⟨C, q1, q2, q3, q4⟩
  have bl : Blk S Pre 20 (X ++ C) := hc.done q1 (by rw [q1.length_eq]; omega) q2
  have hpZ : (X ++ C).Perm l := (q1.append_left X).trans hp
  have q3 : g2[o]? = some (.row ty109 2 ((X ++ C).map fld)) := by simpa using q3
  have s2 : Same o g g2 := s1.trans q4
  generalize X ++ C = Z at bl hpZ q3
  clear q1 q2 hc hY ho1 s1 q4
  simp only [bs, Option.bind_assoc]
  refine Wp.loop (fun n ds g' => ∃ u1 u2 u3 u4 u5 u6, ∃ k : Nat, ∃ Z : List (Str × Str), ds = [.int .i64 (k : Int), u1, u2, u3, u4, u5, u6] ∧ n = N - k ∧ 0 < k ∧ k ≤ 2000000000 ∧ Z.Perm l ∧ Blk S Pre k Z ∧ g'[o]? = some (.row ty109 2 (Z.map fld)) ∧ Same o g g')
    (fun r => r.1 = .ext 2 ∧ ∃ u1 u2 u3 u4 u5 u6 u7, r.2.1 = [u1, u2, u3, u4, u5, u6, u7] ∧ ∃ Z : List (Str × Str), Z.Perm l ∧ Z.Pairwise S ∧ r.2.2[o]? = some (.row ty109 2 (Z.map fld)) ∧ Same o g r.2.2)
    (N - 20) ⟨_, _, _, _, _, _, 20, Z, rfl, rfl, by omega, by omega, hpZ, bl, q3, s2⟩ ?_ ?_
  · clear q3 s2 bl hpZ Z hXY hp
    rintro n ds g3 ⟨u1, u2, u3, u4, u5, u6, k, Z, rfl, rfl, k0, k1, hp, bl, ho3, s3⟩
    have lZ : Z.length = N := by rw [hp.length_eq, hl]
    simp only [F1063_L1, nth_zero, nth_succ, bs, Option.bind_assoc, dBin_lss]
    refine Wp.dif ?_ ?_
    · intro h0
      have h0 : k < N := by have : (k : Int) < (N : Int) := by simpa using h0
                            omega
      have w1 : IntKind.wrap .i64 ((2 : Int) * (k : Int)) = ((2 * k : Nat) : Int) := by rw [wrap_i64 (by omega) (by omega)]; omega
      simp only [dBin_mul, w1, bs, Option.bind_assoc]
      refine Wp.loop (fun n ds g' => ∃ u, ∃ X Y : List (Str × Str), ds = [.int .i64 (X.length : Nat), .int .i64 ((X.length + 2 * k : Nat) : Int), u] ∧ n = Y.length ∧ (X ++ Y).Perm l ∧ Blk S Pre k Y ∧ CtxB S Pre (2 * k) X Y ∧ g'[o]? = some (.row ty109 2 ((X ++ Y).map fld)) ∧ Same o g g')
        (fun r => r.1 = .ext 4 ∧ ∃ u v, ∃ X Y : List (Str × Str), r.2.1 = [.int .i64 (X.length : Nat), u, v] ∧ Y.length < 2 * k ∧ (X ++ Y).Perm l ∧ Blk S Pre k Y ∧ CtxB S Pre (2 * k) X Y ∧ r.2.2[o]? = some (.row ty109 2 ((X ++ Y).map fld)) ∧ Same o g r.2.2)
        N ⟨u5, [], Z, by simp, lZ.symm, by simpa using hp, bl, CtxB.nil, by simpa using ho3, s3⟩ ?_ ?_
      · rintro n ds g4 ⟨u, X, Y, rfl, rfl, hp4, bl4, hc4, ho4, s4⟩
        have hXY : X.length + Y.length = N := by rw [← hl, ← hp4.length_eq]; simp [-bind_some]
        simp only [F1063_L2, nth_zero, nth_succ, bs, Option.bind_assoc, dBin_leq]
        refine Wp.dif ?_ ?_
        · intro h1
          have h1 : 2 * k ≤ Y.length := by have : ((X.length + 2 * k : Nat) : Int) ≤ (N : Int) := by simpa using h1
                                           omega
          obtain ⟨A, Y1, rfl, lA, sA, pA, bY1⟩ := bl4.fst (by omega)
          simp only [List.length_append] at hXY h1
          obtain ⟨B, Y2, rfl, lB, sB, pB, bY2⟩ := bY1.fst (by omega)
          simp only [List.length_append] at hXY h1
          have w2 : IntKind.wrap .i64 ((X.length : Int) + (k : Int)) = ((X.length + A.length : Nat) : Int) := by rw [wrap_i64 (by omega) (by omega)]; omega
          simp only [dBin_add, w2, bs, Option.bind_assoc]
          refine Wp.bind (w1066 od hcmp hN (A.length + B.length) g4 X A B Y2 _ _ _ (Nat.le_refl _) (by simp only [List.length_append]; omega) (by omega) (by omega) sA sB (fun x hx y hy => pA x hx y (by simp [-bind_some, hy])) (by rw [ho4]; simp [-bind_some]) rfl rfl (by omega)) ?_
          rintro ⟨d, g5⟩ ⟨C, q1, q2, q3, q4⟩
          have lC : C.length = 2 * k := by rw [q1.length_eq, List.length_append]; omega
          have w3 : IntKind.wrap .i64 (((X.length + 2 * k : Nat) : Int) + ((2 * k : Nat) : Int)) = ((X.length + 2 * k + 2 * k : Nat) : Int) := by rw [wrap_i64 (by omega) (by omega)]; omega
          simp only [dBin_mul, dBin_add, w1, w3, bs]
          have eX : (X ++ C).length = X.length + 2 * k := by simp [-bind_some, lC]
          refine .some (.inl ⟨rfl, Y2.length, by simp only [List.length_append]; omega, _, X ++ C, Y2, by rw [eX], rfl, ?_, bY2, CtxB.step (A := A ++ B) (by rw [List.append_assoc]; exact hc4) q1 lC q2 (fun x hx y hy => ?_), q3, s4.trans q4⟩)
          · refine List.Perm.trans ?_ hp4
            rw [List.append_assoc, ← List.append_assoc A B Y2]
            exact (q1.append_right Y2).append_left X
          · rcases List.mem_append.1 hx with hx | hx
            · exact pA x hx y (by simp [-bind_some, hy])
            · exact pB x hx y hy
        · intro h1
          have h1 : ¬ 2 * k ≤ Y.length := by have : ¬ ((X.length + 2 * k : Nat) : Int) ≤ (N : Int) := by simpa using h1
                                             omega
          exact .some (.inr ⟨by simp, rfl, _, _, X, Y, rfl, by omega, hp4, bl4, hc4, ho4, s4⟩)
      rintro ⟨ex, ds, g4⟩ ⟨rfl, u, v, X, Y, rfl, hYl, hp4, bl4, hc4, ho4, s4⟩
      have hXY : X.length + Y.length = N := by rw [← hl, ← hp4.length_eq]; simp [-bind_some]
      have w2 : IntKind.wrap .i64 ((X.length : Int) + (k : Int)) = ((X.length + k : Nat) : Int) := by rw [wrap_i64 (by omega) (by omega)]; omega
      have w4 : IntKind.wrap .i64 ((k : Int) * 2) = ((2 * k : Nat) : Int) := by rw [wrap_i64 (by omega) (by omega)]; omega
      simp only [unblk_self, toEnd_nrm, nth_zero, nth_succ, bs, dBin_add, w2, dBin_lss, Option.bind_assoc]
      refine Wp.bind (P := fun r => r.1 = .nrm ∧ ∃ Z : List (Str × Str), Z.Perm l ∧ Blk S Pre (2 * k) Z ∧ r.2.2[o]? = some (.row ty109 2 (Z.map fld)) ∧ Same o g r.2.2) ?_ ?_
      · by_cases hm : X.length + k < N
        · have d1 : decide (((X.length + k : Nat) : Int) < (N : Int)) = true := decide_eq_true (by omega)
          obtain ⟨A, B, rfl, lA, sA, pA, bB⟩ := bl4.fst (by omega)
          simp only [List.length_append] at hXY hYl
          have sB : B.Pairwise S := bB.all (by omega)
          simp only [d1, dIf_bool, if_true]
          refine Wp.bind (w1066 od hcmp hN (A.length + B.length) g4 X A B [] _ _ _ (Nat.le_refl _) (by simp only [List.length_append, List.length_nil]; omega) (by omega) (by omega) sA sB pA (by rw [ho4]; simp [-bind_some]) rfl (by omega) (by omega)) ?_
          rintro ⟨d, g5⟩ ⟨C, q1, q2, q3, q4⟩
          refine .some ⟨rfl, X ++ C, (q1.append_left X).trans hp4, hc4.done q1 (by rw [q1.length_eq, List.length_append]; omega) q2, by simpa using q3, s4.trans q4⟩
        · have d1 : decide (((X.length + k : Nat) : Int) < (N : Int)) = false := decide_eq_false (by omega)
          simp only [d1, dIf_bool, Bool.false_eq_true, if_false]
          exact .some ⟨rfl, X ++ Y, hp4, hc4.done (List.Perm.refl _) (by omega) (bl4.all (by omega)), ho4, s4⟩
      rintro ⟨ex, ds, g5⟩ ⟨rfl, Z2, hp5, bl5, ho5, s5⟩
      simp only [toEnd_nrm, bs, w4]
      exact .some (.inl ⟨rfl, N - 2 * k, by omega, _, _, _, _, _, _, 2 * k, Z2, rfl, rfl, by omega, by omega, hp5, bl5, ho5, s5⟩)
    · intro h0
      have h0 : ¬ k < N := by have : ¬ (k : Int) < (N : Int) := by simpa using h0
                              omega
      exact .some (.inr ⟨by simp, rfl, _, _, _, _, _, _, _, rfl, Z, hp, bl.all (by omega), ho3, s3⟩)
  rintro ⟨ex, ds, g3⟩ ⟨rfl, u1, u2, u3, u4, u5, u6, u7, rfl, Z3, hp3, sZ, ho3, s3⟩
  simp only [unblk_self, exEnd_nrm, bs]
  exact .some ⟨Z3, hp3, sZ, ho3, s3⟩
def leS (x y : Str × Str) : Prop := ¬ cF y x < 0
theorem leS_def (x y : Str × Str) : leS x y ↔ Op.bytesLess y.1 x.1 = false := by
  unfold leS cF
  rw [cmpB_lt]
  simp [-bind_some]
theorem leS_tr {x y z : Str × Str} (h : leS x y) (k : leS y z) : leS x z := by
  rw [leS_def] at *
  cases hh : Op.bytesLess z.1 x.1
  · rfl
  · by_cases he : y.1 = x.1
    · rw [he, hh] at k; cases k
    · have := bL_tr hh (bL_tot h he)
      rw [this] at k; cases k
theorem leS_od : SOrd cF leS (fun _ _ => True) where
  tr := fun x y z => leS_tr
  lt := fun x y _ h => by
    unfold leS
    intro h2
    unfold cF at h h2
    rw [cmpB_lt] at h h2
    have := bL_tr h h2
    rw [bL_irr] at this
    cases this
  ge := fun x y _ h => h
theorem leS_anti {x y : Str × Str} (h : leS x y) (k : leS y x) : x.1 = y.1 := by
  rw [leS_def] at h k
  apply Classical.byContradiction
  intro hn
  have := bL_tot k hn
  rw [this] at h; cases h
theorem sorted_adj : ∀ {C : List (Str × Str)}, C.Pairwise leS → (adjB C = false ↔ (C.map Prod.fst).Nodup)
  | [], _ => by simp [-bind_some, adjB]
  | [x], _ => by simp [-bind_some, adjB]
  | x :: y :: r, h => by
    have ih := sorted_adj (C := y :: r) (List.pairwise_cons.1 h).2
    have hx := (List.pairwise_cons.1 h).1
    have hy := (List.pairwise_cons.1 (List.pairwise_cons.1 h).2).1
    rw [List.map_cons, List.nodup_cons]
    unfold adjB
    rw [Bool.or_eq_false_iff, ih]
    constructor
    · rintro ⟨h1, h2⟩
      refine ⟨fun hm => ?_, h2⟩
      have h1 : y.1 ≠ x.1 := by simpa using h1
      obtain ⟨z, hz, hzx⟩ := List.mem_map.1 hm
      rcases List.mem_cons.1 hz with rfl | hz
      · exact h1 hzx
      · have h3 : leS y x := by
          have := hy z hz
          rw [leS_def] at this ⊢
          rw [← hzx]; exact this
        exact h1 (leS_anti h3 (hx y (by simp)))
    · rintro ⟨h1, h2⟩
      refine ⟨?_, h2⟩
      have : y.1 ≠ x.1 := fun hh => h1 (by rw [List.map_cons, hh]; simp [-bind_some])
      simpa using this
theorem sorted_uniq : ∀ {C E : List (Str × Str)}, C.Pairwise leS → E.Pairwise leS → C.Perm E → (C.map Prod.fst).Nodup → C = E
  | [], E, _, _, hp, _ => by rw [List.nil_perm.1 hp]
  | x :: C, [], _, _, hp, _ => by cases List.perm_nil.1 hp
  | x :: C, y :: E, hC, hE, hp, hn => by
    rw [List.pairwise_cons] at hC hE
    rw [List.map_cons, List.nodup_cons] at hn
    have hxy : x = y := by
      apply Classical.byContradiction
      intro hne
      have hx : x ∈ E := by
        have : x ∈ y :: E := hp.mem_iff.1 (by simp)
        rcases List.mem_cons.1 this with h | h
        · exact absurd h hne
        · exact h
      have hy : y ∈ C := by
        have : y ∈ x :: C := hp.mem_iff.2 (by simp)
        rcases List.mem_cons.1 this with h | h
        · exact absurd h.symm hne
        · exact h
      have := leS_anti (hC.1 y hy) (hE.1 x hx)
      exact hn.1 (by rw [this]; exact List.mem_map.2 ⟨y, hy, rfl⟩)
    subst hxy
    rw [sorted_uniq hC.2 hE.2 ((List.perm_cons x).1 hp) hn.2]
theorem srt_ok (l : List (Str × Str)) : (srt l).Perm l ∧ (srt l).Pairwise leS := by
  cases l with
  | nil => exact ⟨by simp [-bind_some, srt, isr], by simp [-bind_some, srt, isr]⟩
  | cons x B =>
    obtain ⟨C, q1, q2, q3⟩ := isr_ok leS_od [] [] B [x] (by simp) (fun _ _ _ _ => trivial) (List.Pairwise.imp (fun _ => trivial) (List.pairwise_of_forall (l := B) (R := fun _ _ => True) (fun _ _ => trivial)))
    have e : srt (x :: B) = C := by
      unfold srt
      have : (x :: B).length - 1 = B.length := by simp
      rw [this]
      simpa using q1
    rw [e]
    exact ⟨by simpa using q2, q3⟩
theorem sort_any {C l : List (Str × Str)} (hp : C.Perm l) (hs : C.Pairwise leS) : adjB C = adjB (srt l) ∧ (adjB C = false → C = srt l) := by
  obtain ⟨h1, h2⟩ := srt_ok l
  have hq : C.Perm (srt l) := hp.trans h1.symm
  have hn : (C.map Prod.fst).Nodup ↔ ((srt l).map Prod.fst).Nodup := (hq.map Prod.fst).nodup_iff
  have a1 := sorted_adj hs
  have a2 := sorted_adj h2
  refine ⟨?_, fun h => sorted_uniq hs h2 hq (a1.1 h)⟩
  cases hC : adjB C <;> cases hS : adjB (srt l)
  · rfl
  · have := a2.2 (hn.1 (a1.1 hC)); rw [this] at hS; cases hS
  · have := a1.2 (hn.2 (a2.1 hS)); rw [this] at hC; cases hC
  · rfl
theorem w1057 {cmp : D} (hcmp : CmpF cmp cF) {o N : Nat} (hN : N ≤ 1000000000) {g : Hp} {l : List (Str × Str)} (hl : l.length = N) (ho : g[o]? = some (.row ty109 2 (l.map fld))) :
    ∃ d g', ∃ C : List (Str × Str), R fn1057 [.msl 2 o 0 N, cmp] g = some (d, g') ∧ C.Perm l ∧ C.Pairwise leS ∧ g'[o]? = some (.row ty109 2 (C.map fld)) ∧ Same o g g' := by
  obtain ⟨⟨d, g'⟩, e, C, q1, q2, q3, q4⟩ := w1063 leS_od hcmp hN hl (List.pairwise_of_forall fun _ _ => trivial) ho
  refine ⟨mkRes [], g', C, ?_, q1, q2, q3, q4⟩
  rw [e1057]
  simp only [F1057, bs, lenm29, e]
theorem s1052w (l : List (Str × Str)) (d : D) (h : Hp) (hd : SlOf 2 fld l d) : ∃ d' h', R fn1052 [d] h = some (.tup [d', .int .i64 (sortF l).1], h') ∧ h.length ≤ h'.length ∧ (∀ q, q < h.length → h'[q]? = h[q]?) ∧ ((sortF l).1 = 0 → RdF h' (sortF l).2 d') := by
  suffices Wp (R fn1052 [d] h) (fun p => ∃ d', p.1 = .tup [d', .int .i64 (sortF l).1] ∧ h.length ≤ p.2.length ∧ (∀ q, q < h.length → p.2[q]? = h[q]?) ∧ ((sortF l).1 = 0 → RdF p.2 (sortF l).2 d')) by
    obtain ⟨⟨x, h'⟩, h1, d', rfl, h2⟩ := this
    exact ⟨d', h', h1, h2⟩
  rw [e1052]
  by_cases h32n : 32 < l.length
  · have h32 : (32 : Int) < (l.length : Int) := by omega
    have hs : sortF l = (4, []) := by simp only [sortF, h32n, if_true]
    rw [hs]
    simp only [F1052, bs, Option.bind_assoc, lens29 hd, dBin_gtr, h32, decide_true, dIf_bool, if_true, mkRes_two]
    exact .some ⟨.nils, rfl, Nat.le_refl _, fun _ _ => rfl, fun hh => by cases hh⟩
  have h32 : ¬ (32 : Int) < (l.length : Int) := by omega
  simp only [F1052, bs, Option.bind_assoc, lens29 hd, dBin_gtr, h32, decide_false, dIf_bool, Bool.false_eq_true, if_false]
  refine l1052a l d h hd (by omega) _ _ _ _ _ (fun hv x y z w => ?_) (fun hv x y z w => ?_)
  · simp only [unblk_self, toEnd_nrm, nth_zero, nth_succ, bs]
    obtain ⟨d1, h1, e1, hl1, hb1, hd1⟩ := u1009 l d h hd (by omega)
    simp only [e1, bs]
    have hsrt : ∃ x h2, ∃ C : List (Str × Str), R fn1057 [d1, .fn (.func fn1058) [] []] h1 = some (x, h2) ∧ h.length ≤ h2.length ∧ (∀ q, q < h.length → h2[q]? = h[q]?) ∧ C.Perm l ∧ C.Pairwise leS ∧ RdF h2 C d1 := by
      rcases hd1 with ⟨rfl, hd1⟩ | ⟨ob, hob, rfl, ho⟩
      · obtain ⟨x, hx⟩ := s1057e d1 (.fn (.func fn1058) [] []) h1 hd1
        exact ⟨x, h1, [], hx, hl1, hb1, List.Perm.refl _, List.Pairwise.nil, .inl hd1⟩
      · obtain ⟨x, h2, C, q1, q2, q3, q4, q5⟩ := w1057 (cmp := .fn (.func fn1058) [] []) (fun x y g => c1058 x y g) (o := ob) (N := l.length) (by omega) rfl ho
        refine ⟨x, h2, C, q1, by have := q5.1; omega, fun q hq => (q5.2 q (by omega)).trans (hb1 q hq), q2, q3, .inr ⟨ob, by rw [q2.length_eq], q4⟩⟩
    obtain ⟨u, h2, C, e2, hl2, hb2, hpC, hsC, hr⟩ := hsrt
    obtain ⟨ad, un⟩ := sort_any hpC hsC
    simp only [e2, bs]
    refine l1052b C d1 h2 hr (by rw [hpC.length_eq]; omega) _ _ _ _ (fun ha x y z => ?_) (fun ha x y z => ?_)
    · have hs : sortF l = (0, srt l) := by simp only [sortF, h32n, if_false, hv, if_true, ← ad, ha, Bool.false_eq_true]
      rw [hs]
      simp only [unblk_self, toEnd_nrm, bs, mkRes_two]
      exact .some ⟨d1, rfl, hl2, hb2, fun _ => by rw [← un ha]; exact hr⟩
    · have hs : sortF l = (7, []) := by simp only [sortF, h32n, if_false, hv, if_true, ← ad, ha]
      rw [hs]
      simp only [unblk_ret, toEnd_ret, exEnd_ret, nth_zero, nth_succ, bs, mkRes_two]
      exact .some ⟨.nils, rfl, hl2, hb2, fun hh => by cases hh⟩
  · have hs : sortF l = (6, []) := by simp only [sortF, h32n, if_false, hv]; rfl
    rw [hs]
    simp only [unblk_ret, toEnd_ret, exEnd_ret, nth_zero, nth_succ, bs, mkRes_two]
    exact .some ⟨.nils, rfl, Nat.le_refl _, fun _ _ => rfl, fun hh => by cases hh⟩
theorem s1043w (e : Ev) (h : Hp) : R fn1043 [.agg (evr e)] h = some (.int .i64 (evE e), h) := s1043g e h fun p => s1052w e.fs e.fd p e.hfd
theorem s1042w (i : It) (h : Hp) : R fn1042 [.agg (itr i)] h = some (.int .i64 (itE i), h) := s1042g i h (s1043w i.e h)
structure Rw where
  k : List Str
  kd : D
  hk : SlOf 1 (fun s => [D.str s]) k kd
  hkl : k.length ≤ 1000000
  n : List Int
  nd : D
  hn : SlOf 1 inr n nd
  hnl : n.length ≤ 1000000
  er : Int
theorem drop_cons {α : Type} {l : List α} {i : Nat} {x : α} (h : l[i]? = some x) : l.drop i = x :: l.drop (i + 1) := by
  obtain ⟨hn, hh⟩ := List.getElem?_eq_some_iff.1 h
  rw [List.drop_eq_getElem_cons hn, hh]
def rwa : Rw := ⟨[], .nils, .nils _ _, by simp, [1], .sl 1 true [[.int .i64 1]], .inr ⟨true, rfl⟩, by simp, 0⟩
theorem s1011g (e : Ev) (h : Hp) : R fn1011 [.agg (evr e)] h = some (.int .i64 (if plB e = true then 0 else 2), h) := by
  rw [e1011]
  simp only [F1011, pBoxF_agg, bs, evr, fa31_0, fa31_1, fa31_2, fa31_3, ld3, dBin_lss, dBin_gtr, dBin_leq]
  by_cases g1 : e.a0 < 0
  · have hp : plB e = false := by
      cases hh : plB e
      · rfl
      · simp [-bind_some, plB] at hh; omega
    simp only [g1, hp, decide_true, decide_false, gd_bool, gd_und, reduceCtorEq, Bool.true_eq_false, Bool.false_eq_true, if_true, if_false, bs, fa31_0, fa31_1, fa31_2, fa31_3, ld3, dBin_lss, dBin_gtr, dBin_leq, dPick_bool, dIf_bool, mkRes_one]
  by_cases g2 : 999 < e.a0
  · have hp : plB e = false := by
      cases hh : plB e
      · rfl
      · simp [-bind_some, plB] at hh; omega
    simp only [g1, g2, hp, decide_true, decide_false, gd_bool, gd_und, reduceCtorEq, Bool.true_eq_false, Bool.false_eq_true, if_true, if_false, bs, fa31_0, fa31_1, fa31_2, fa31_3, ld3, dBin_lss, dBin_gtr, dBin_leq, dPick_bool, dIf_bool, mkRes_one]
  by_cases g3 : e.a1 < 0
  · have hp : plB e = false := by
      cases hh : plB e
      · rfl
      · simp [-bind_some, plB] at hh; omega
    simp only [g1, g2, g3, hp, decide_true, decide_false, gd_bool, gd_und, reduceCtorEq, Bool.true_eq_false, Bool.false_eq_true, if_true, if_false, bs, fa31_0, fa31_1, fa31_2, fa31_3, ld3, dBin_lss, dBin_gtr, dBin_leq, dPick_bool, dIf_bool, mkRes_one]
  by_cases g4 : 2147483646 < e.a1
  · have hp : plB e = false := by
      cases hh : plB e
      · rfl
      · simp [-bind_some, plB] at hh; omega
    simp only [g1, g2, g3, g4, hp, decide_true, decide_false, gd_bool, gd_und, reduceCtorEq, Bool.true_eq_false, Bool.false_eq_true, if_true, if_false, bs, fa31_0, fa31_1, fa31_2, fa31_3, ld3, dBin_lss, dBin_gtr, dBin_leq, dPick_bool, dIf_bool, mkRes_one]
  by_cases g5 : e.a2 < 0
  · have hp : plB e = false := by
      cases hh : plB e
      · rfl
      · simp [-bind_some, plB] at hh; omega
    simp only [g1, g2, g3, g4, g5, hp, decide_true, decide_false, gd_bool, gd_und, reduceCtorEq, Bool.true_eq_false, Bool.false_eq_true, if_true, if_false, bs, fa31_0, fa31_1, fa31_2, fa31_3, ld3, dBin_lss, dBin_gtr, dBin_leq, dPick_bool, dIf_bool, mkRes_one]
  by_cases g6 : e.a3 ≤ e.a2
  · have hp : plB e = false := by
      cases hh : plB e
      · rfl
      · simp [-bind_some, plB] at hh; omega
    simp only [g1, g2, g3, g4, g5, g6, hp, decide_true, decide_false, gd_bool, gd_und, reduceCtorEq, Bool.true_eq_false, Bool.false_eq_true, if_true, if_false, bs, fa31_0, fa31_1, fa31_2, fa31_3, ld3, dBin_lss, dBin_gtr, dBin_leq, dPick_bool, dIf_bool, mkRes_one]
  by_cases g7 : 60000 < e.a3
  · have hp : plB e = false := by
      cases hh : plB e
      · rfl
      · simp [-bind_some, plB] at hh; omega
    simp only [g1, g2, g3, g4, g5, g6, g7, hp, decide_true, decide_false, gd_bool, gd_und, reduceCtorEq, Bool.true_eq_false, Bool.false_eq_true, if_true, if_false, bs, fa31_0, fa31_1, fa31_2, fa31_3, ld3, dBin_lss, dBin_gtr, dBin_leq, dPick_bool, dIf_bool, mkRes_one]
  have hp : plB e = true := by simp [-bind_some, plB]; omega
  simp only [g1, g2, g3, g4, g5, g6, g7, hp, decide_true, decide_false, gd_bool, gd_und, reduceCtorEq, Bool.true_eq_false, Bool.false_eq_true, if_true, if_false, bs, fa31_0, fa31_1, fa31_2, fa31_3, ld3, dBin_lss, dBin_gtr, dBin_leq, dPick_bool, dIf_bool, mkRes_one]
end Go.Proofs.YtlpedofpnbggbaaDoor
