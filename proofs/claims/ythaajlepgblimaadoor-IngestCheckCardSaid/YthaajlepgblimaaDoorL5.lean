/- Laws, on plain data, about functions that the statement reaches. -/
import Derived.Test.YthaajlepgblimaaDoorL4
set_option linter.unusedSimpArgs false
set_option linter.unusedVariables false
set_option linter.unnecessarySimpa false
set_option maxRecDepth 100000
namespace Go.Proofs.YthaajlepgblimaaDoor
open Go.Eng Go.Pi
open Option (bind_some)
theorem swap_wp2 {g : Hp} {o : Nat} {A B : List (Str × Str)} {x y : Str × Str} {n : Nat} (hn : A.length = n) (ho : g[o]? = some (.row ty109 2 ((A ++ x :: y :: B).map fld))) {β : Type} {f : Hp → Option β} {Q : β → Prop}
    (K : ∀ g', g'[o]? = some (.row ty109 2 ((A ++ y :: x :: B).map fld)) → Same o g g' → Wp (f g') Q) : Wp ((dStore tab g ty109 (.ptr o (n + 1) 0) (.agg (fld x))).bind fun g1 => (dStore tab g1 ty109 (.ptr o n 0) (.agg (fld y))).bind f) Q := by
  have e1 : A ++ x :: y :: B = (A ++ [x]) ++ y :: B := by simp
  have n1 : (A ++ [x]).length = n + 1 := by simp [-bind_some, hn]
  rw [e1] at ho
  have rb : (((A ++ [x]) ++ y :: B).map fld)[n + 1]? = some (fld y) := by rw [List.getElem?_map, get_midn _ _ y _ n1]; rfl
  refine wst109 (off := 0) (row := fld y) (v := .agg (fld x)) ho rb (by rfl) (by exact Nat.le_refl _) (by rfl) fun g1 p1 w1 => ?_
  have p1 : g1[o]? = some (.row ty109 2 ((A ++ x :: x :: B).map fld)) := by
    rw [p1, show spl (fld y) 0 (cells1 (.agg (fld x))) = fld x from rfl, ← List.map_set, set_mid _ _ y x _ n1]
    simp [-bind_some]
  have ra : ((A ++ x :: x :: B).map fld)[n]? = some (fld x) := by rw [List.getElem?_map, get_midn _ _ x _ hn]; rfl
  refine wst109 (off := 0) (row := fld x) (v := .agg (fld y)) p1 ra (by rfl) (by exact Nat.le_refl _) (by rfl) fun g2 p2 w2 => ?_
  refine K g2 ?_ (w1.trans w2)
  rw [p2, show spl (fld x) 0 (cells1 (.agg (fld y))) = fld y from rfl, ← List.map_set, set_mid _ _ x y _ hn]
theorem ix29n {o N n : Nat} (h : n < N) : dIndexAddr tab ty29 (.msl 2 o 0 N) (.int .i64 (n : Int)) = some (.ptr o n 0) := by rw [ixm29, if_pos (by omega), Int.toNat_natCast, Nat.zero_add]
theorem wL4 {g : Hp} {o N : Nat} {P A Q : List (Str × Str)} {x : Str × Str} (hN : N ≤ 1000000000) (hlen : (P ++ x :: A ++ Q).length = N) (ho : g[o]? = some (.row ty109 2 ((P ++ x :: A ++ Q).map fld))) (r14 : Out) (hr : nth 0 r14.2.1 = .int .i64 ((P.length + A.length + 1 : Nat) : Int)) (a : Int) (ha : a = P.length) (x1 : D) {β : Type} {f : Out → Option β} {R1 : β → Prop}
    (K : ∀ g' b1 b2, g'[o]? = some (.row ty109 2 ((P ++ A ++ x :: Q).map fld)) → Same o g g' → Wp (f (.ext 2, [b1, b2], g')) R1) : Wp ((loopW (F1066_L4 (.msl 2 o 0 N) r14) [.int .i64 a, x1] g).bind f) R1 := by
  subst ha
  simp only [List.length_append, List.length_cons] at hlen
  refine Wp.loop (fun kk ds g' => ∃ y, ∃ i : Nat, ds = [.int .i64 ((P.length + i : Nat) : Int), y] ∧ kk + i = A.length ∧ Same o g g' ∧ g'[o]? = some (.row ty109 2 ((P ++ A.take i ++ x :: (A.drop i ++ Q)).map fld)))
    (fun r => r.1 = .ext 2 ∧ (∃ b1 b2, r.2.1 = [b1, b2]) ∧ Same o g r.2.2 ∧ r.2.2[o]? = some (.row ty109 2 ((P ++ A ++ x :: Q).map fld))) A.length ⟨_, 0, rfl, rfl, ⟨rfl, fun _ _ => rfl⟩, by simpa using ho⟩ ?_ ?_
  · rintro kk ds g' ⟨y1, i, rfl, hk, sm, ho'⟩
    have w0 : IntKind.wrap .i64 (((P.length + A.length + 1 : Nat) : Int) - 1) = ((P.length + A.length : Nat) : Int) := by rw [wrap_i64 (by omega) (by omega)]; omega
    simp only [F1066_L4, nth_zero, nth_succ, bs, Option.bind_assoc, hr, dBin_sub, w0, dBin_lss]
    refine Wp.dif ?_ ?_
    · intro h0
      have h0 : i < A.length := by have : ((P.length + i : Nat) : Int) < ((P.length + A.length : Nat) : Int) := by simpa using h0
                                   omega
      obtain ⟨y, hy⟩ : ∃ y, A[i]? = some y := ⟨_, List.getElem?_eq_getElem h0⟩
      have hdy : A.drop i = y :: A.drop (i + 1) := by
        obtain ⟨hn, hh⟩ := List.getElem?_eq_some_iff.1 hy
        rw [List.drop_eq_getElem_cons hn, hh]
      have hw : IntKind.wrap .i64 (((P.length + i : Nat) : Int) + 1) = ((P.length + i + 1 : Nat) : Int) := by
        rw [wrap_i64 (by omega) (by omega)]; omega
      have e1 : P ++ A.take i ++ x :: (A.drop i ++ Q) = (P ++ A.take i) ++ x :: y :: (A.drop (i + 1) ++ Q) := by rw [hdy]; simp [-bind_some]
      have e2 : (P ++ A.take i ++ [x]) ++ y :: (A.drop (i + 1) ++ Q) = (P ++ A.take i) ++ x :: y :: (A.drop (i + 1) ++ Q) := by simp
      have n1 : (P ++ A.take i).length = P.length + i := by simp; omega
      have n2 : (P ++ A.take i ++ [x]).length = P.length + i + 1 := by simp; omega
      rw [e1] at ho'
      have la := fldL ho' (get_midn _ _ x _ n1)
      have lb := fldL ho' (by rw [← e2]; exact get_midn _ _ y _ n2)
      have ia := @ix29n o N (P.length + i) (by omega)
      have ib := @ix29n o N (P.length + i + 1) (by omega)
      simp only [dBin_add, hw, ia, ib, la, lb, bs, Option.bind_assoc]
      refine swap_wp n1 ho' fun g2 p2 w2 => ?_
      try simp only [bs]
      refine .some (.inl ⟨rfl, kk - 1, by omega, _, i + 1, rfl, by omega, sm.trans w2, ?_⟩)
      rw [p2, List.take_add_one, hy]
      simp [-bind_some]
    · intro h0
      have h0 : i = A.length := by have : ¬ ((P.length + i : Nat) : Int) < ((P.length + A.length : Nat) : Int) := by simpa using h0
                                   omega
      subst h0
      rw [List.take_length, List.drop_length] at ho'
      exact .some (.inr ⟨by simp, rfl, ⟨_, _, rfl⟩, sm, by simpa using ho'⟩)
  · rintro ⟨ex, ds, g'⟩ ⟨rfl, ⟨b1, b2, rfl⟩, sm, p⟩
    exact K g' b1 b2 p sm
theorem wL2 {g : Hp} {o N : Nat} {P A Q : List (Str × Str)} {x : Str × Str} (hN : N ≤ 1000000000) (hlen : (P ++ A ++ x :: Q).length = N) (ho : g[o]? = some (.row ty109 2 ((P ++ A ++ x :: Q).map fld))) (r9 : Out) (hr : nth 0 r9.2.1 = .int .i64 (P.length : Int)) (m : Int) (hm : m = (P.length + A.length : Nat)) (x1 : D) {β : Type} {f : Out → Option β} {R1 : β → Prop}
    (K : ∀ g' b1 b2, g'[o]? = some (.row ty109 2 ((P ++ x :: A ++ Q).map fld)) → Same o g g' → Wp (f (.ext 6, [b1, b2], g')) R1) : Wp ((loopW (F1066_L2 (.msl 2 o 0 N) r9) [.int .i64 m, x1] g).bind f) R1 := by
  subst hm
  simp only [List.length_append, List.length_cons] at hlen
  refine Wp.loop (fun kk ds g' => ∃ y, ds = [.int .i64 ((P.length + kk : Nat) : Int), y] ∧ kk ≤ A.length ∧ Same o g g' ∧ g'[o]? = some (.row ty109 2 ((P ++ A.take kk ++ x :: (A.drop kk ++ Q)).map fld)))
    (fun r => r.1 = .ext 6 ∧ (∃ b1 b2, r.2.1 = [b1, b2]) ∧ Same o g r.2.2 ∧ r.2.2[o]? = some (.row ty109 2 ((P ++ x :: A ++ Q).map fld))) A.length ⟨_, rfl, Nat.le_refl _, ⟨rfl, fun _ _ => rfl⟩, by simpa using ho⟩ ?_ ?_
  · rintro kk ds g' ⟨y1, rfl, hk, sm, ho'⟩
    simp only [F1066_L2, nth_zero, nth_succ, bs, Option.bind_assoc, hr, dBin_gtr]
    refine Wp.dif ?_ ?_
    · intro h0
      have h0 : 0 < kk := by have : ((P.length + kk : Nat) : Int) > (P.length : Int) := by simpa using h0
                             omega
      obtain ⟨i, rfl⟩ : ∃ i, kk = i + 1 := ⟨kk - 1, by omega⟩
      obtain ⟨y, hy⟩ : ∃ y, A[i]? = some y := ⟨_, List.getElem?_eq_getElem (by omega)⟩
      have hdy : A.drop i = y :: A.drop (i + 1) := by
        obtain ⟨hn, hh⟩ := List.getElem?_eq_some_iff.1 hy
        rw [List.drop_eq_getElem_cons hn, hh]
      have hw : IntKind.wrap .i64 (((P.length + (i + 1) : Nat) : Int) - 1) = ((P.length + i : Nat) : Int) := by
        rw [wrap_i64 (by omega) (by omega)]; omega
      have e1 : P ++ A.take (i + 1) ++ x :: (A.drop (i + 1) ++ Q) = (P ++ A.take i) ++ y :: x :: (A.drop (i + 1) ++ Q) := by rw [List.take_add_one, hy]; simp [-bind_some]
      have e2 : (P ++ A.take i ++ [y]) ++ x :: (A.drop (i + 1) ++ Q) = (P ++ A.take i) ++ y :: x :: (A.drop (i + 1) ++ Q) := by simp
      have n1 : (P ++ A.take i).length = P.length + i := by simp; omega
      have n2 : (P ++ A.take i ++ [y]).length = P.length + i + 1 := by simp; omega
      rw [e1] at ho'
      have la := fldL ho' (get_midn _ _ y _ n1)
      have lb := fldL ho' (by rw [← e2]; exact get_midn _ _ x _ n2)
      have ia := @ix29n o N (P.length + i) (by omega)
      have ib := @ix29n o N (P.length + (i + 1)) (by omega)
      rw [show P.length + (i + 1) = P.length + i + 1 from rfl] at hw ib ⊢
      simp only [dBin_sub, hw, ia, ib, la, lb, bs, Option.bind_assoc]
      refine swap_wp2 n1 ho' fun g2 p2 w2 => ?_
      try simp only [bs]
      refine .some (.inl ⟨rfl, i, by omega, _, rfl, by omega, sm.trans w2, ?_⟩)
      rw [p2, hdy]
      simp [-bind_some]
    · intro h0
      have h0 : kk = 0 := by have : ¬ ((P.length + kk : Nat) : Int) > (P.length : Int) := by simpa using h0
                             omega
      subst h0
      exact .some (.inr ⟨by simp, rfl, ⟨_, _, rfl⟩, sm, by simpa using ho'⟩)
  · rintro ⟨ex, ds, g'⟩ ⟨rfl, ⟨b1, b2, rfl⟩, sm, p⟩
    exact K g' b1 b2 p sm
theorem mid_ok {i j : Nat} (hi : i ≤ 1000000000) (hj : j ≤ 1000000000) : IntKind.wrap .i64 ((i : Int) + j) = ((i + j : Nat) : Int) ∧ IntKind.wrap .u64 ((i + j : Nat) : Int) = ((i + j : Nat) : Int) ∧ (((i + j : Nat) : Int)).fdiv (2 ^ min ((1 : Int).toNat) IntKind.u64.bits) = (((i + j) / 2 : Nat) : Int) ∧ IntKind.wrap .i64 (((i + j) / 2 : Nat) : Int) = (((i + j) / 2 : Nat) : Int) := by
  have m1 : min ((1 : Int).toNat) IntKind.u64.bits = 1 := by decide
  have p1 : (2 : Int) ^ 1 = 2 := by decide
  refine ⟨?_, wrap_u64 (by omega) (by omega), ?_, wrap_i64 (by omega) (by omega)⟩
  · rw [wrap_i64 (by omega) (by omega)]; omega
  · rw [m1, p1, Int.fdiv_eq_ediv_of_nonneg _ (by omega)]; omega
theorem wL3 {g : Hp} {o N : Nat} {L : List (Str × Str)} (hN : N ≤ 1000000000) (hlen : L.length = N) (ho : g[o]? = some (.row ty109 2 (L.map fld))) (cmp : D) (a m b : Nat) (q : Nat → Prop) (ha : a < N) (hmb : m ≤ b) (hbN : b ≤ N) (x : Str × Str) (hx : L[a]? = some x)
    (hc : ∀ t y, m ≤ t → t < b → L[t]? = some y → ∃ v, callV R cmp [.agg (fld y), .agg (fld x)] g = some (.int .i64 v, g) ∧ (v < 0 ↔ q t)) (x1 x2 x3 : D) {β : Type} {f : Out → Option β} {Q : β → Prop}
    (K : ∀ (c : Nat) b1 b2 b3, m ≤ c → c ≤ b → (c = m ∨ q (c - 1)) → (c = b ∨ ¬ q c) → Wp (f (.ext 0, [.int .i64 (c : Int), .int .i64 (c : Int), b1, b2, b3], g)) Q) : Wp ((loopW (F1066_L3 (.msl 2 o 0 N) (.int .i64 (a : Int)) cmp) [.int .i64 (m : Int), .int .i64 (b : Int), x1, x2, x3] g).bind f) Q := by
  refine Wp.loop (fun kk ds g' => g' = g ∧ ∃ y1 y2 y3, ∃ i j : Nat, ds = [.int .i64 (i : Int), .int .i64 (j : Int), y1, y2, y3] ∧ kk = j - i ∧ m ≤ i ∧ i ≤ j ∧ j ≤ b ∧ (i = m ∨ q (i - 1)) ∧ (j = b ∨ ¬ q j))
    (fun r => r.1 = .ext 0 ∧ r.2.2 = g ∧ ∃ b1 b2 b3, ∃ c : Nat, r.2.1 = [.int .i64 (c : Int), .int .i64 (c : Int), b1, b2, b3] ∧ m ≤ c ∧ c ≤ b ∧ (c = m ∨ q (c - 1)) ∧ (c = b ∨ ¬ q c)) (b - m) ⟨rfl, _, _, _, m, b, rfl, rfl, Nat.le_refl _, hmb, Nat.le_refl _, .inl rfl, .inl rfl⟩ ?_ ?_
  · rintro kk ds g' ⟨rfl, y1, y2, y3, i, j, rfl, hk, h1, h2, h3, h4, h5⟩
    simp only [F1066_L3, nth_zero, nth_succ, bs, Option.bind_assoc, dBin_lss]
    refine Wp.dif ?_ ?_
    · intro h0
      have h0 : i < j := by have : (i : Int) < (j : Int) := by simpa using h0
                            omega
      obtain ⟨u1, u2, u3, u4⟩ := @mid_ok i j (by omega) (by omega)
      obtain ⟨y, hy⟩ : ∃ y, L[(i + j) / 2]? = some y := ⟨_, List.getElem?_eq_getElem (by omega)⟩
      obtain ⟨v, hv, hvc⟩ := hc ((i + j) / 2) y (by omega) (by omega) hy
      have ia := @ix29n o N ((i + j) / 2) (by omega)
      have ib := @ix29n o N a ha
      have la := fldL ho hy
      have lb := fldL ho hx
      have w1 : IntKind.wrap .i64 ((((i + j) / 2 : Nat) : Int) + 1) = (((i + j) / 2 + 1 : Nat) : Int) := by rw [wrap_i64 (by omega) (by omega)]; omega
      simp only [dBin_add, u1, cv3_134, u2, dBin_shr, show ¬ (1 : Int) < 0 by omega, if_false, u3, cv134_3, u4, ia, ib, la, lb, hv, bs, dBin_lss, Option.bind_assoc]
      by_cases hlt : v < 0
      · have := hvc.1 hlt
        simp only [hlt, decide_true, dIf_bool, if_true, w1, bs, unblk_nrm, nth_zero, nth_succ]
        exact .some (.inl ⟨rfl, j - ((i + j) / 2 + 1), by omega, rfl, _, _, _, _, _, rfl, rfl, by omega, by omega, by omega, .inr (by simpa using this), h5⟩)
      · have := fun h => hlt (hvc.2 h)
        simp only [hlt, decide_false, dIf_bool, Bool.false_eq_true, if_false, bs, unblk_nrm, nth_zero, nth_succ]
        exact .some (.inl ⟨rfl, (i + j) / 2 - i, by omega, rfl, _, _, _, _, _, rfl, rfl, by omega, by omega, by omega, h4, .inr this⟩)
    · intro h0
      have h0 : ¬ i < j := by have : ¬ (i : Int) < (j : Int) := by simpa using h0
                              omega
      obtain rfl : j = i := by omega
      exact .some (.inr ⟨by simp, rfl, rfl, _, _, _, j, rfl, h1, h3, h4, h5⟩)
  · rintro ⟨ex, ds, g'⟩ ⟨rfl, q2, b1, b2, b3, c, rfl, k1, k2, k3, k4⟩
    simp only at q2
    subst q2
    exact K c b1 b2 b3 k1 k2 k3 k4
theorem wL1 {g : Hp} {o N : Nat} {L : List (Str × Str)} (hN : N ≤ 1000000000) (hlen : L.length = N) (ho : g[o]? = some (.row ty109 2 (L.map fld))) (cmp : D) (m a b : Nat) (q : Nat → Prop) (hmN : m < N) (hmb : a ≤ b) (hbN : b ≤ N) (x : Str × Str) (hx : L[m]? = some x)
    (hc : ∀ t y, a ≤ t → t < b → L[t]? = some y → ∃ v, callV R cmp [.agg (fld x), .agg (fld y)] g = some (.int .i64 v, g) ∧ (¬ v < 0 ↔ q t)) (x1 x2 x3 : D) {β : Type} {f : Out → Option β} {Q : β → Prop}
    (K : ∀ (c : Nat) b1 b2 b3, a ≤ c → c ≤ b → (c = a ∨ q (c - 1)) → (c = b ∨ ¬ q c) → Wp (f (.ext 4, [.int .i64 (c : Int), .int .i64 (c : Int), b1, b2, b3], g)) Q) : Wp ((loopW (F1066_L1 (.msl 2 o 0 N) (.int .i64 (m : Int)) cmp) [.int .i64 (a : Int), .int .i64 (b : Int), x1, x2, x3] g).bind f) Q := by
  refine Wp.loop (fun kk ds g' => g' = g ∧ ∃ y1 y2 y3, ∃ i j : Nat, ds = [.int .i64 (i : Int), .int .i64 (j : Int), y1, y2, y3] ∧ kk = j - i ∧ a ≤ i ∧ i ≤ j ∧ j ≤ b ∧ (i = a ∨ q (i - 1)) ∧ (j = b ∨ ¬ q j))
    (fun r => r.1 = .ext 4 ∧ r.2.2 = g ∧ ∃ b1 b2 b3, ∃ c : Nat, r.2.1 = [.int .i64 (c : Int), .int .i64 (c : Int), b1, b2, b3] ∧ a ≤ c ∧ c ≤ b ∧ (c = a ∨ q (c - 1)) ∧ (c = b ∨ ¬ q c)) (b - a) ⟨rfl, _, _, _, a, b, rfl, rfl, Nat.le_refl _, hmb, Nat.le_refl _, .inl rfl, .inl rfl⟩ ?_ ?_
  · rintro kk ds g' ⟨rfl, y1, y2, y3, i, j, rfl, hk, h1, h2, h3, h4, h5⟩
    simp only [F1066_L1, nth_zero, nth_succ, bs, Option.bind_assoc, dBin_lss]
    refine Wp.dif ?_ ?_
    · intro h0
      have h0 : i < j := by have : (i : Int) < (j : Int) := by simpa using h0
                            omega
      obtain ⟨u1, u2, u3, u4⟩ := @mid_ok i j (by omega) (by omega)
      obtain ⟨y, hy⟩ : ∃ y, L[(i + j) / 2]? = some y := ⟨_, List.getElem?_eq_getElem (by omega)⟩
      obtain ⟨v, hv, hvc⟩ := hc ((i + j) / 2) y (by omega) (by omega) hy
      have ia := @ix29n o N ((i + j) / 2) (by omega)
      have ib := @ix29n o N m hmN
      have la := fldL ho hy
      have lb := fldL ho hx
      have w1 : IntKind.wrap .i64 ((((i + j) / 2 : Nat) : Int) + 1) = (((i + j) / 2 + 1 : Nat) : Int) := by rw [wrap_i64 (by omega) (by omega)]; omega
      simp only [dBin_add, u1, cv3_134, u2, dBin_shr, show ¬ (1 : Int) < 0 by omega, if_false, u3, cv134_3, u4, ia, ib, la, lb, hv, bs, dBin_lss, dUn_not, Option.bind_assoc]
      by_cases hlt : v < 0
      · have := fun h => (hvc.2 h) hlt
        simp only [hlt, decide_true, Bool.not_true, dIf_bool, Bool.false_eq_true, if_false, bs, unblk_nrm, nth_zero, nth_succ]
        exact .some (.inl ⟨rfl, (i + j) / 2 - i, by omega, rfl, _, _, _, _, _, rfl, rfl, by omega, by omega, by omega, h4, .inr this⟩)
      · have := hvc.1 hlt
        simp only [hlt, decide_false, Bool.not_false, dIf_bool, if_true, w1, bs, unblk_nrm, nth_zero, nth_succ]
        exact .some (.inl ⟨rfl, j - ((i + j) / 2 + 1), by omega, rfl, _, _, _, _, _, rfl, rfl, by omega, by omega, by omega, .inr (by simpa using this), h5⟩)
    · intro h0
      have h0 : ¬ i < j := by have : ¬ (i : Int) < (j : Int) := by simpa using h0
                              omega
      obtain rfl : j = i := by omega
      exact .some (.inr ⟨by simp, rfl, rfl, _, _, _, j, rfl, h1, h3, h4, h5⟩)
  · rintro ⟨ex, ds, g'⟩ ⟨rfl, q2, b1, b2, b3, c, rfl, k1, k2, k3, k4⟩
    simp only at q2
    subst q2
    exact K c b1 b2 b3 k1 k2 k3 k4
theorem wL0 {g : Hp} {o N : Nat} {L : List (Str × Str)} (hN : N ≤ 1000000000) (hlen : L.length = N) (ho : g[o]? = some (.row ty109 2 (L.map fld))) (cmp : D) (p a b : Nat) (q : Nat → Prop) (hmb : a ≤ b) (hbp : b ≤ p + 1) (hbN : b ≤ N) (hpN : p < a + N)
    (hc : ∀ t y z, a ≤ t → t < b → L[t]? = some y → L[p - t]? = some z → ∃ v, callV R cmp [.agg (fld z), .agg (fld y)] g = some (.int .i64 v, g) ∧ (¬ v < 0 ↔ q t)) (x1 x2 x3 : D) {β : Type} {f : Out → Option β} {Q : β → Prop}
    (K : ∀ (c : Nat) b1 b2 b3, a ≤ c → c ≤ b → (c = a ∨ q (c - 1)) → (c = b ∨ ¬ q c) → Wp (f (.ext 8, [.int .i64 (c : Int), .int .i64 (c : Int), b1, b2, b3], g)) Q) : Wp ((loopW (F1066_L0 (.msl 2 o 0 N) cmp (.int .i64 (p : Int))) [.int .i64 (a : Int), .int .i64 (b : Int), x1, x2, x3] g).bind f) Q := by
  refine Wp.loop (fun kk ds g' => g' = g ∧ ∃ y1 y2 y3, ∃ i j : Nat, ds = [.int .i64 (i : Int), .int .i64 (j : Int), y1, y2, y3] ∧ kk = j - i ∧ a ≤ i ∧ i ≤ j ∧ j ≤ b ∧ (i = a ∨ q (i - 1)) ∧ (j = b ∨ ¬ q j))
    (fun r => r.1 = .ext 8 ∧ r.2.2 = g ∧ ∃ b1 b2 b3, ∃ c : Nat, r.2.1 = [.int .i64 (c : Int), .int .i64 (c : Int), b1, b2, b3] ∧ a ≤ c ∧ c ≤ b ∧ (c = a ∨ q (c - 1)) ∧ (c = b ∨ ¬ q c)) (b - a) ⟨rfl, _, _, _, a, b, rfl, rfl, Nat.le_refl _, hmb, Nat.le_refl _, .inl rfl, .inl rfl⟩ ?_ ?_
  · rintro kk ds g' ⟨rfl, y1, y2, y3, i, j, rfl, hk, h1, h2, h3, h4, h5⟩
    simp only [F1066_L0, nth_zero, nth_succ, bs, Option.bind_assoc, dBin_lss]
    refine Wp.dif ?_ ?_
    · intro h0
      have h0 : i < j := by have : (i : Int) < (j : Int) := by simpa using h0
                            omega
      obtain ⟨u1, u2, u3, u4⟩ := @mid_ok i j (by omega) (by omega)
      obtain ⟨y, hy⟩ : ∃ y, L[(i + j) / 2]? = some y := ⟨_, List.getElem?_eq_getElem (by omega)⟩
      obtain ⟨z, hz⟩ : ∃ z, L[p - (i + j) / 2]? = some z := ⟨_, List.getElem?_eq_getElem (by omega)⟩
      obtain ⟨v, hv, hvc⟩ := hc ((i + j) / 2) y z (by omega) (by omega) hy hz
      have ia := @ix29n o N ((i + j) / 2) (by omega)
      have ib := @ix29n o N (p - (i + j) / 2) (by omega)
      have la := fldL ho hy
      have lb := fldL ho hz
      have wp' : IntKind.wrap .i64 ((p : Int) - (((i + j) / 2 : Nat) : Int)) = ((p - (i + j) / 2 : Nat) : Int) := by rw [wrap_i64 (by omega) (by omega)]; omega
      have w1 : IntKind.wrap .i64 ((((i + j) / 2 : Nat) : Int) + 1) = (((i + j) / 2 + 1 : Nat) : Int) := by rw [wrap_i64 (by omega) (by omega)]; omega
      simp only [dBin_add, u1, cv3_134, u2, dBin_shr, show ¬ (1 : Int) < 0 by omega, if_false, u3, cv134_3, u4, dBin_sub, wp', ia, ib, la, lb, hv, bs, dBin_lss, dUn_not, Option.bind_assoc]
      by_cases hlt : v < 0
      · have := fun h => (hvc.2 h) hlt
        simp only [hlt, decide_true, Bool.not_true, dIf_bool, Bool.false_eq_true, if_false, bs, unblk_nrm, nth_zero, nth_succ]
        exact .some (.inl ⟨rfl, (i + j) / 2 - i, by omega, rfl, _, _, _, _, _, rfl, rfl, by omega, by omega, by omega, h4, .inr this⟩)
      · have := hvc.1 hlt
        simp only [hlt, decide_false, Bool.not_false, dIf_bool, if_true, w1, bs, unblk_nrm, nth_zero, nth_succ]
        exact .some (.inl ⟨rfl, j - ((i + j) / 2 + 1), by omega, rfl, _, _, _, _, _, rfl, rfl, by omega, by omega, by omega, .inr (by simpa using this), h5⟩)
    · intro h0
      have h0 : ¬ i < j := by have : ¬ (i : Int) < (j : Int) := by simpa using h0
                              omega
      obtain rfl : j = i := by omega
      exact .some (.inr ⟨by simp, rfl, rfl, _, _, _, j, rfl, h1, h3, h4, h5⟩)
  · rintro ⟨ex, ds, g'⟩ ⟨rfl, q2, b1, b2, b3, c, rfl, k1, k2, k3, k4⟩
    simp only at q2
    subst q2
    exact K c b1 b2 b3 k1 k2 k3 k4
def CmpF (cmp : D) (c : Str × Str → Str × Str → Int) : Prop := ∀ x y g, callV R cmp [.agg (fld x), .agg (fld y)] g = some (.int .i64 (c x y), g)
theorem w1066a {g : Hp} {o N : Nat} {P B Q : List (Str × Str)} {x : Str × Str} (hN : N ≤ 1000000000) (hlen : (P ++ x :: B ++ Q).length = N) (ho : g[o]? = some (.row ty109 2 ((P ++ x :: B ++ Q).map fld))) (cmp : D) (c : Str × Str → Str × Str → Int) (hcmp : CmpF cmp c) (a m b : Int) (ha : a = (P.length : Nat)) (hm : m = (P.length + 1 : Nat)) (hb : b = (P.length + 1 + B.length : Nat)) {β : Type} {f : D × Hp → Option β} {R1 : β → Prop}
    (K : ∀ g' B1 B2, B = B1 ++ B2 → (B1 = [] ∨ ∃ y r, B1 = r ++ [y] ∧ c y x < 0) → (B2 = [] ∨ ∃ y r, B2 = y :: r ∧ ¬ c y x < 0) → g'[o]? = some (.row ty109 2 ((P ++ (B1 ++ x :: B2) ++ Q).map fld)) → Same o g g' → Wp (f (mkRes [], g')) R1) : Wp ((R fn1066 [.msl 2 o 0 N, .int .i64 a, .int .i64 m, .int .i64 b, cmp] g).bind f) R1 := by
  subst ha hm hb
  have hl := hlen
  simp only [List.length_append, List.length_cons] at hl
  have w1 : IntKind.wrap .i64 (((P.length + 1 : Nat) : Int) - (P.length : Int)) = 1 := by rw [wrap_i64 (by omega) (by omega)]; omega
  have gx : (P ++ x :: B ++ Q)[P.length]? = some x := by
    rw [show P ++ x :: B ++ Q = P ++ x :: (B ++ Q) by simp]
    exact get_midn _ _ x _ rfl
  have gB : ∀ t, (P ++ x :: B ++ Q)[P.length + 1 + t]? = (B ++ Q)[t]? := fun t => by
    rw [show P ++ x :: B ++ Q = (P ++ [x]) ++ (B ++ Q) by simp, List.getElem?_append_right (by simp)]
    simp [-bind_some]
  rw [e1066]
  simp only [F1066, bs, Option.bind_assoc, dBin_sub, w1, dBin_eql, decide_true, dIf_bool, if_true]
  refine wL3 hN hlen ho cmp P.length (P.length + 1) (P.length + 1 + B.length) (fun t => ∃ y, (P ++ x :: B ++ Q)[t]? = some y ∧ c y x < 0) (by omega) (by omega) (by omega) x gx (fun t y _ _ hy => ⟨c y x, hcmp y x g, fun h => ⟨y, hy, h⟩, fun ⟨y', h1, h2⟩ => by rw [hy] at h1; injection h1 with h1; rw [h1]; exact h2⟩) _ _ _ fun k b1 b2 b3 k1 k2 k3 k4 => ?_
  obtain ⟨t, rfl⟩ : ∃ t, k = P.length + 1 + t := ⟨k - (P.length + 1), by omega⟩
  have htB : t ≤ B.length := by omega
  simp only [unblk_self, toEnd_nrm, bs, nth_zero, nth_succ, Option.bind_assoc]
  have eL : P ++ x :: B ++ Q = P ++ x :: B.take t ++ (B.drop t ++ Q) := by
    simp only [List.append_assoc, List.cons_append]
    rw [← List.append_assoc (B.take t), List.take_append_drop]
  have htl : (B.take t).length = t := by simp; omega
  refine wL4 (P := P) (A := B.take t) (Q := B.drop t ++ Q) (x := x) hN (by rw [← eL]; exact hlen) (by rw [← eL]; exact ho) _ (by rw [htl]; show D.int _ _ = _; congr 1; omega) _ rfl _ fun g1 c1 c2 p1 s1' => ?_
  simp only [unblk_self, toEnd_nrm, bs]
  refine K g1 (B.take t) (B.drop t) (List.take_append_drop _ _).symm ?_ ?_ (by rw [p1]; simp [-bind_some]) s1'
  · rcases Nat.eq_zero_or_pos t with rfl | hpos
    · exact .inl (by simp)
    · right
      rcases k3 with k3 | ⟨y, hy, hlt⟩
      · omega
      · rw [show P.length + 1 + t - 1 = P.length + 1 + (t - 1) by omega, gB, List.getElem?_append_left (by omega)] at hy
        refine ⟨y, B.take (t - 1), ?_, hlt⟩
        conv => lhs; rw [show t = (t - 1) + 1 by omega, List.take_add_one, hy]
        simp [-bind_some]
  · rcases Nat.lt_or_ge t B.length with hlt | hge
    · right
      obtain ⟨y, hy⟩ : ∃ y, B[t]? = some y := ⟨_, List.getElem?_eq_getElem hlt⟩
      rcases k4 with k4 | k4
      · omega
      · refine ⟨y, B.drop (t + 1), ?_, fun h => k4 ⟨y, by rw [gB, List.getElem?_append_left hlt]; exact hy, h⟩⟩
        obtain ⟨hn, hh⟩ := List.getElem?_eq_some_iff.1 hy
        rw [List.drop_eq_getElem_cons hn, hh]
    · exact .inl (List.drop_eq_nil_of_le hge)
theorem w1066b {g : Hp} {o N : Nat} {P A Q : List (Str × Str)} {x : Str × Str} (hN : N ≤ 1000000000) (hlen : (P ++ A ++ x :: Q).length = N) (hA1 : A.length ≠ 1) (ho : g[o]? = some (.row ty109 2 ((P ++ A ++ x :: Q).map fld))) (cmp : D) (c : Str × Str → Str × Str → Int) (hcmp : CmpF cmp c) (a m b : Int) (ha : a = (P.length : Nat)) (hm : m = (P.length + A.length : Nat)) (hb : b = (P.length + A.length + 1 : Nat)) {β : Type} {f : D × Hp → Option β} {R1 : β → Prop}
    (K : ∀ g' A1 A2, A = A1 ++ A2 → (A1 = [] ∨ ∃ y r, A1 = r ++ [y] ∧ ¬ c x y < 0) → (A2 = [] ∨ ∃ y r, A2 = y :: r ∧ c x y < 0) → g'[o]? = some (.row ty109 2 ((P ++ (A1 ++ x :: A2) ++ Q).map fld)) → Same o g g' → Wp (f (mkRes [], g')) R1) : Wp ((R fn1066 [.msl 2 o 0 N, .int .i64 a, .int .i64 m, .int .i64 b, cmp] g).bind f) R1 := by
  subst ha hm hb
  have hl := hlen
  simp only [List.length_append, List.length_cons] at hl
  have w1 : IntKind.wrap .i64 (((P.length + A.length : Nat) : Int) - (P.length : Int)) = A.length := by rw [wrap_i64 (by omega) (by omega)]; omega
  have w2 : IntKind.wrap .i64 (((P.length + A.length + 1 : Nat) : Int) - ((P.length + A.length : Nat) : Int)) = 1 := by rw [wrap_i64 (by omega) (by omega)]; omega
  have hd1 : decide ((A.length : Int) = 1) = false := decide_eq_false (by omega)
  have gx : (P ++ A ++ x :: Q)[P.length + A.length]? = some x := get_midn _ _ x _ (by simp)
  have gA : ∀ t, t < A.length → (P ++ A ++ x :: Q)[P.length + t]? = A[t]? := fun t ht => by
    rw [List.append_assoc, List.getElem?_append_right (by simp), List.getElem?_append_left (by omega)]
    simp [-bind_some]
  rw [e1066]
  simp only [F1066, F1066_R0, bs, Option.bind_assoc, dBin_sub, w1, w2, dBin_eql, hd1, decide_true, dIf_bool, Bool.false_eq_true, if_false, if_true]
  refine wL1 hN hlen ho cmp (P.length + A.length) P.length (P.length + A.length) (fun t => ∃ y, (P ++ A ++ x :: Q)[t]? = some y ∧ ¬ c x y < 0) (by omega) (by omega) (by omega) x gx (fun t y _ _ hy => ⟨c x y, hcmp x y g, fun h => ⟨y, hy, h⟩, fun ⟨y', h1, h2⟩ => by rw [hy] at h1; injection h1 with h1; rw [h1]; exact h2⟩) _ _ _ fun k b1 b2 b3 k1 k2 k3 k4 => ?_
  obtain ⟨t, rfl⟩ : ∃ t, k = P.length + t := ⟨k - P.length, by omega⟩
  have htA : t ≤ A.length := by omega
  simp only [unblk_self, toEnd_nrm, bs, nth_zero, nth_succ, Option.bind_assoc]
  have htl : (A.take t).length = t := by simp; omega
  have eL : P ++ A ++ x :: Q = (P ++ A.take t) ++ A.drop t ++ x :: Q := by
    rw [List.append_assoc P (A.take t), List.take_append_drop]
  have hdl : (A.drop t).length = A.length - t := List.length_drop
  refine wL2 (P := P ++ A.take t) (A := A.drop t) (Q := Q) (x := x) hN (by rw [← eL]; exact hlen) (by rw [← eL]; exact ho) _ (by rw [List.length_append, htl]; rfl) _ (by rw [List.length_append, htl, hdl]; congr 1; omega) _ fun g1 c1 c2 p1 s1' => ?_
  simp only [unblk_self, toEnd_nrm, bs]
  refine K g1 (A.take t) (A.drop t) (List.take_append_drop _ _).symm ?_ ?_ (by rw [p1]; simp [-bind_some]) s1'
  · rcases Nat.eq_zero_or_pos t with rfl | hpos
    · exact .inl (by simp)
    · right
      rcases k3 with k3 | ⟨y, hy, hlt⟩
      · omega
      · rw [show P.length + t - 1 = P.length + (t - 1) by omega, gA _ (by omega)] at hy
        refine ⟨y, A.take (t - 1), ?_, hlt⟩
        conv => lhs; rw [show t = (t - 1) + 1 by omega, List.take_add_one, hy]
        simp [-bind_some]
  · rcases Nat.lt_or_ge t A.length with hlt | hge
    · right
      obtain ⟨y, hy⟩ : ∃ y, A[t]? = some y := ⟨_, List.getElem?_eq_getElem hlt⟩
      rcases k4 with k4 | k4
      · omega
      · refine ⟨y, A.drop (t + 1), ?_, Classical.byContradiction fun h => k4 ⟨y, by rw [gA _ hlt]; exact hy, h⟩⟩
        obtain ⟨hn, hh⟩ := List.getElem?_eq_some_iff.1 hy
        rw [List.drop_eq_getElem_cons hn, hh]
    · exact .inl (List.drop_eq_nil_of_le hge)
theorem getm {α : Type} (P A B : List α) (t : Nat) (h0 : P.length ≤ t) (h1 : t < P.length + A.length) : (P ++ A ++ B)[t]? = A[t - P.length]? := by
  rw [List.append_assoc, List.getElem?_append_right h0, List.getElem?_append_left (by omega)]
theorem last_of {α : Type} {A : List α} {t : Nat} {y : α} (ht : 0 < t) (hy : A[t - 1]? = some y) : ∃ r, A.take t = r ++ [y] := by
  refine ⟨A.take (t - 1), ?_⟩
  conv => lhs; rw [show t = (t - 1) + 1 by omega, List.take_add_one, hy]
  simp [-bind_some]
theorem first_of {α : Type} {A : List α} {t : Nat} {y : α} (hy : A[t]? = some y) : ∃ r, A.drop t = y :: r := by
  obtain ⟨hn, hh⟩ := List.getElem?_eq_some_iff.1 hy
  exact ⟨A.drop (t + 1), by rw [List.drop_eq_getElem_cons hn, hh]⟩
theorem and_lss (b1 : Bool) (a c : Int) (t : Nat) {β : Type} (f : D → Option β) : ((gd (.bool b1) true (some (.int .i64 a))).bind fun t2 => (gd (.bool b1) true (some (.int .i64 c))).bind fun t3 => (gd (.bool b1) true (dBin tab .lss t t2 t3)).bind fun t4 => (dPick (.bool b1) t4 (.bool false)).bind f) = f (.bool (b1 && decide (a < c))) := by
  cases b1
  · simp only [gd_bool, reduceCtorEq, if_false, bs, dPick_bool, Bool.false_eq_true, Bool.false_and]
  · simp only [gd_bool, if_true, bs, dPick_bool, dBin_lss, Bool.true_and]
def MergeOK (c : Str × Str → Str × Str → Int) (S Pre : Str × Str → Str × Str → Prop) (cmp : D) (o N n : Nat) : Prop :=
  ∀ (g : Hp) (P A B Q : List (Str × Str)) (a m b : Int), A.length + B.length ≤ n → (P ++ A ++ B ++ Q).length = N → 0 < A.length → 0 < B.length → A.Pairwise S → B.Pairwise S → (∀ x ∈ A, ∀ y ∈ B, Pre x y) →
    g[o]? = some (.row ty109 2 ((P ++ A ++ B ++ Q).map fld)) → a = (P.length : Nat) → m = (P.length + A.length : Nat) → b = (P.length + A.length + B.length : Nat) →
    Wp (R fn1066 [.msl 2 o 0 N, .int .i64 a, .int .i64 m, .int .i64 b, cmp] g) fun p => ∃ C : List (Str × Str), C.Perm (A ++ B) ∧ C.Pairwise S ∧ p.2[o]? = some (.row ty109 2 ((P ++ C ++ Q).map fld)) ∧ Same o g p.2
theorem cut_wp {g : Hp} {o N : Nat} {P A B Q : List (Str × Str)} (hN : N ≤ 1000000000) (hlen : (P ++ A ++ B ++ Q).length = N) (hA : 0 < A.length) (hB : 0 < B.length) (ho : g[o]? = some (.row ty109 2 ((P ++ A ++ B ++ Q).map fld))) (cmp : D) (c : Str × Str → Str × Str → Int) (hcmp : CmpF cmp c)
    (mid s0 r0 : Nat) (hmid : mid = (P.length + (P.length + A.length + B.length)) / 2) (hs : (P.length + A.length > mid ∧ s0 + B.length = mid ∧ r0 = mid) ∨ (P.length + A.length ≤ mid ∧ s0 = P.length ∧ r0 = P.length + A.length))
    (p : Int) (hp : p = (mid + (P.length + A.length) - 1 : Nat)) (x1 x2 x3 : D) {β : Type} {f : Out → Option β} {R1 : β → Prop}
    (K : ∀ (k : Nat) b1 b2 b3 A1 A2 B1 B2, A = A1 ++ A2 → B = B1 ++ B2 → k = P.length + A1.length → mid = P.length + A1.length + B1.length →
      (A1 = [] ∨ B2 = [] ∨ ∃ x y r s, A1 = r ++ [x] ∧ B2 = y :: s ∧ ¬ c y x < 0) → (A2 = [] ∨ B1 = [] ∨ ∃ x y r s, B1 = r ++ [y] ∧ A2 = x :: s ∧ c y x < 0) →
      Wp (f (.ext 8, [.int .i64 (k : Int), .int .i64 (k : Int), b1, b2, b3], g)) R1) : Wp ((loopW (F1066_L0 (.msl 2 o 0 N) cmp (.int .i64 p)) [.int .i64 (s0 : Int), .int .i64 (r0 : Int), x1, x2, x3] g).bind f) R1 := by
  subst hp
  have hl := hlen
  simp only [List.length_append] at hl
  have gA : ∀ t, P.length ≤ t → t < P.length + A.length → (P ++ A ++ B ++ Q)[t]? = A[t - P.length]? := fun t h0 h1 => by
    rw [List.append_assoc (P ++ A)]; exact getm P A _ t h0 h1
  have gB : ∀ t, P.length + A.length ≤ t → t < P.length + A.length + B.length → (P ++ A ++ B ++ Q)[t]? = B[t - (P.length + A.length)]? := fun t h0 h1 => by
    have := getm (P ++ A) B Q t (by simpa using h0) (by simpa using h1)
    simpa using this
  obtain ⟨q, hq⟩ : ∃ q : Nat → Prop, ∀ t, q t ↔ ∃ y z, (P ++ A ++ B ++ Q)[t]? = some y ∧ (P ++ A ++ B ++ Q)[mid + (P.length + A.length) - 1 - t]? = some z ∧ ¬ c z y < 0 := ⟨_, fun t => Iff.rfl⟩
  refine wL0 hN hlen ho cmp (mid + (P.length + A.length) - 1) s0 r0 q (by omega) (by omega) (by omega) (by omega)
    (fun t y z _ _ hy hz => ⟨c z y, hcmp z y g, fun h => (hq t).2 ⟨y, z, hy, hz, h⟩, fun hh => by
      obtain ⟨y', z', h1, h2, h3⟩ := (hq t).1 hh
      rw [hy] at h1; rw [hz] at h2; injection h1 with h1; injection h2 with h2; rw [h1, h2]; exact h3⟩) _ _ _ fun k b1 b2 b3 k1 k2 k3 k4 => ?_
  have hkA : k - P.length ≤ A.length := by omega
  have hkB : mid - k ≤ B.length := by omega
  have la : (A.take (k - P.length)).length = k - P.length := by simp; omega
  have lb : (B.take (mid - k)).length = mid - k := by simp; omega
  refine K k b1 b2 b3 (A.take (k - P.length)) (A.drop (k - P.length)) (B.take (mid - k)) (B.drop (mid - k)) (List.take_append_drop _ _).symm (List.take_append_drop _ _).symm (by omega) (by omega) ?_ ?_
  · rcases k3 with k3 | k3
    · rcases hs with ⟨h1, h2, h3⟩ | ⟨h1, h2, h3⟩
      · right; left
        exact List.drop_eq_nil_of_le (by omega)
      · left
        apply List.eq_nil_of_length_eq_zero
        omega
    · by_cases hk0 : k = P.length
      · left; apply List.eq_nil_of_length_eq_zero; omega
      · right
        by_cases hk1 : B.length ≤ mid - k
        · left; exact List.drop_eq_nil_of_le hk1
        · right
          obtain ⟨y, z, hy, hz, hlt⟩ := (hq _).1 k3
          rw [gA _ (by omega) (by omega)] at hy
          rw [gB _ (by omega) (by omega)] at hz
          obtain ⟨r, hr⟩ := last_of (A := A) (t := k - P.length) (y := y) (by omega) (by rw [← hy]; congr 1; omega)
          obtain ⟨s, hs'⟩ := first_of (A := B) (t := mid - k) (y := z) (by rw [← hz]; congr 1; omega)
          exact ⟨y, z, r, s, hr, hs', hlt⟩
  · by_cases hk0 : k = P.length + A.length
    · left; exact List.drop_eq_nil_of_le (by omega)
    · right
      by_cases hk1 : mid - k = 0
      · left; rw [hk1]; rfl
      · right
        rcases k4 with k4 | k4
        · omega
        · obtain ⟨y, hy⟩ : ∃ y, A[k - P.length]? = some y := ⟨_, List.getElem?_eq_getElem (by omega)⟩
          obtain ⟨z, hz⟩ : ∃ z, B[mid - k - 1]? = some z := ⟨_, List.getElem?_eq_getElem (by omega)⟩
          obtain ⟨r, hr⟩ := last_of (A := B) (t := mid - k) (y := z) (by omega) hz
          obtain ⟨s, hs'⟩ := first_of (A := A) (t := k - P.length) (y := y) hy
          refine ⟨y, z, r, s, hr, hs', Classical.byContradiction fun h => k4 ((hq _).2 ⟨y, z, ?_, ?_, h⟩)⟩
          · rw [gA _ (by omega) (by omega)]; exact hy
          · rw [gB _ (by omega) (by omega), ← hz]; congr 1; omega
theorem w1066r {c : Str × Str → Str × Str → Int} {S Pre : Str × Str → Str × Str → Prop} (od : SOrd c S Pre) {cmp : D} (hcmp : CmpF cmp c) {o N n : Nat} (hN : N ≤ 1000000000) (ih : MergeOK c S Pre cmp o N n)
    {g : Hp} {P A B Q : List (Str × Str)} {a m b : Int} (hn : A.length + B.length ≤ n + 1) (hlen : (P ++ A ++ B ++ Q).length = N) (hA : 0 < A.length) (hB : 0 < B.length) (sA : A.Pairwise S) (sB : B.Pairwise S) (hp : ∀ x ∈ A, ∀ y ∈ B, Pre x y)
    (ho : g[o]? = some (.row ty109 2 ((P ++ A ++ B ++ Q).map fld))) (ha : a = (P.length : Nat)) (hm : m = (P.length + A.length : Nat)) (hb : b = (P.length + A.length + B.length : Nat)) :
    Wp (F1066_R1 (.msl 2 o 0 N) (.int .i64 a) (.int .i64 m) (.int .i64 b) cmp g) fun p => ∃ C : List (Str × Str), C.Perm (A ++ B) ∧ C.Pairwise S ∧ p.2[o]? = some (.row ty109 2 ((P ++ C ++ Q).map fld)) ∧ Same o g p.2 := by
  have hl := hlen
  simp only [List.length_append] at hl
  obtain ⟨mid, hmid⟩ : ∃ mid : Nat, mid = (P.length + (P.length + A.length + B.length)) / 2 := ⟨_, rfl⟩
  obtain ⟨mm, hmm⟩ : ∃ mm : Nat, mm = P.length + A.length := ⟨_, rfl⟩
  obtain ⟨bb, hbb⟩ : ∃ bb : Nat, bb = P.length + A.length + B.length := ⟨_, rfl⟩
  rw [← hmm] at hm
  rw [← hbb] at hb
  subst ha hm hb
  obtain ⟨u1, u2, u3, u4⟩ := @mid_ok P.length bb (by omega) (by omega)
  rw [← show mid = (P.length + bb) / 2 by rw [hmid, hbb]] at u3 u4
  have w1 : IntKind.wrap .i64 ((mid : Int) + (mm : Int)) = ((mid + mm : Nat) : Int) := by rw [wrap_i64 (by omega) (by omega)]; omega
  have w2 : IntKind.wrap .i64 (((mid + mm : Nat) : Int) - 1) = ((mid + (P.length + A.length) - 1 : Nat) : Int) := by rw [wrap_i64 (by omega) (by omega)]; omega
  simp only [F1066_R1, bs, Option.bind_assoc, dBin_add, u1, cv3_134, u2, dBin_shr, show ¬ (1 : Int) < 0 by omega, if_false, u3, cv134_3, u4, w1, dBin_gtr]
  refine Wp.join (P := fun r => r.1 = .nrm ∧ r.2.2 = g ∧ ∃ s0 r0 : Nat, r.2.1 = [.int .i64 (s0 : Int), .int .i64 (r0 : Int)] ∧ ((P.length + A.length > mid ∧ s0 + B.length = mid ∧ r0 = mid) ∨ (P.length + A.length ≤ mid ∧ s0 = P.length ∧ r0 = P.length + A.length))) ?_ ?_ ?_
  · intro h0
    have h0 : mid < mm := by have : (mm : Int) > (mid : Int) := by simpa using h0
                             omega
    have w3 : IntKind.wrap .i64 (((mid + mm : Nat) : Int) - (bb : Int)) = ((mid - B.length : Nat) : Int) := by rw [wrap_i64 (by omega) (by omega)]; omega
    simp only [dBin_sub, w3, bs]
    exact .some ⟨rfl, rfl, mid - B.length, mid, rfl, .inl ⟨by omega, by omega, rfl⟩⟩
  · intro h0
    have h0 : ¬ mid < mm := by have : ¬ (mm : Int) > (mid : Int) := by simpa using h0
                               omega
    exact .some ⟨rfl, rfl, P.length, mm, rfl, .inr ⟨by omega, rfl, hmm⟩⟩
  rintro ⟨ex, ds, g'⟩ ⟨rfl, q2, s0, r0, rfl, hs⟩
  simp only at q2
  subst q2
  simp only [toEnd_nrm, dBin_sub, w2, bs, nth_zero, nth_succ, Option.bind_assoc]
  refine cut_wp hN hlen hA hB ho cmp c hcmp mid s0 r0 hmid hs _ rfl _ _ _ fun k b1 b2 b3 A1 A2 B1 B2 eA eB ek em h1 h2 => ?_
  subst eA eB
  simp only [List.length_append] at *
  have w4 : IntKind.wrap .i64 (((mid + mm : Nat) : Int) - (k : Int)) = ((mm + B1.length : Nat) : Int) := by rw [wrap_i64 (by omega) (by omega)]; omega
  simp only [unblk_self, toEnd_nrm, bs, nth_zero, nth_succ, Option.bind_assoc, dBin_sub, w4, dBin_lss, and_lss]
  rw [List.pairwise_append] at sA sB
  -- the rotation
  refine Wp.bind (P := fun r => r.1 = .nrm ∧ r.2.2[o]? = some (.row ty109 2 ((P ++ A1 ++ B1 ++ A2 ++ B2 ++ Q).map fld)) ∧ Same o g' r.2.2) ?_ ?_
  · by_cases c1 : 0 < A2.length
    · have d1 : decide ((k : Int) < (mm : Int)) = true := decide_eq_true (by omega)
      by_cases c2 : 0 < B1.length
      · have d2 : decide ((mm : Int) < ((mm + B1.length : Nat) : Int)) = true := decide_eq_true (by omega)
        simp only [d1, d2, Bool.and_self, dIf_bool, if_true]
        refine w1068 (P := P ++ A1) (U := A2) (V := B1) (Q := B2 ++ Q) hN (by simp only [List.length_append]; omega) c1 c2 (by rw [ho]; simp [-bind_some]) cmp _ _ _ (by simp only [List.length_append]; omega) (by simp only [List.length_append]; omega) (by simp only [List.length_append]; omega) fun g1 p1 s1 => ?_
        exact .some ⟨rfl, by simp only [p1]; simp [-bind_some], s1⟩
      · have e2 : B1 = [] := List.eq_nil_of_length_eq_zero (by omega)
        subst e2
        have d2 : decide ((mm : Int) < ((mm + ([] : List (Str × Str)).length : Nat) : Int)) = false := decide_eq_false (by simp)
        simp only [d1, d2, Bool.and_false, dIf_bool, Bool.false_eq_true, if_false]
        exact .some ⟨rfl, by simp only [ho]; simp [-bind_some], .refl _ _⟩
    · have e2 : A2 = [] := List.eq_nil_of_length_eq_zero (by omega)
      subst e2
      have d1 : decide ((k : Int) < (mm : Int)) = false := decide_eq_false (by simp only [List.length_nil] at *; omega)
      simp only [d1, Bool.false_and, dIf_bool, Bool.false_eq_true, if_false]
      exact .some ⟨rfl, by simp only [ho]; simp [-bind_some], .refl _ _⟩
  rintro ⟨ex, ds, g1⟩ ⟨rfl, p1, s1⟩
  simp only [toEnd_nrm, bs, Option.bind_assoc, dBin_lss, and_lss]
  -- the first half
  refine Wp.bind (P := fun r => r.1 = .nrm ∧ ∃ C1 : List (Str × Str), C1.Perm (A1 ++ B1) ∧ C1.Pairwise S ∧ r.2.2[o]? = some (.row ty109 2 ((P ++ C1 ++ (A2 ++ B2 ++ Q)).map fld)) ∧ Same o g' r.2.2) ?_ ?_
  · by_cases c1 : 0 < A1.length
    · have d1 : decide (((P.length : Nat) : Int) < (k : Int)) = true := decide_eq_true (by omega)
      by_cases c2 : 0 < B1.length
      · have d2 : decide ((k : Int) < (mid : Int)) = true := decide_eq_true (by omega)
        simp only [d1, d2, Bool.and_self, dIf_bool, if_true]
        refine Wp.bind (ih g1 P A1 B1 (A2 ++ B2 ++ Q) _ _ _ (by omega) (by simp only [List.length_append]; omega) c1 c2 sA.1 sB.1 (fun x hx y hy => hp x (by simp [-bind_some, hx]) y (by simp [-bind_some, hy])) (by rw [p1]; simp [-bind_some]) rfl (by omega) (by omega)) ?_
        rintro ⟨d, g2⟩ ⟨C, q1, q2, q3, q4⟩
        exact .some ⟨rfl, C, q1, q2, q3, s1.trans q4⟩
      · have e2 : B1 = [] := List.eq_nil_of_length_eq_zero (by omega)
        subst e2
        have d2 : decide ((k : Int) < (mid : Int)) = false := decide_eq_false (by simp only [List.length_nil] at *; omega)
        simp only [d1, d2, Bool.and_false, dIf_bool, Bool.false_eq_true, if_false]
        exact .some ⟨rfl, A1, by simp, sA.1, by simp only [p1]; simp [-bind_some], s1⟩
    · have e2 : A1 = [] := List.eq_nil_of_length_eq_zero (by omega)
      subst e2
      have d1 : decide (((P.length : Nat) : Int) < (k : Int)) = false := decide_eq_false (by simp only [List.length_nil] at *; omega)
      simp only [d1, Bool.false_and, dIf_bool, Bool.false_eq_true, if_false]
      exact .some ⟨rfl, B1, by simp, sB.1, by simp only [p1]; simp [-bind_some], s1⟩
  rintro ⟨ex, ds, g2⟩ ⟨rfl, C1, r1, r2, p2, s2⟩
  have lC1 : C1.length = A1.length + B1.length := by rw [r1.length_eq]; simp [-bind_some]
  simp only [toEnd_nrm, bs, Option.bind_assoc, dBin_lss, and_lss]
  -- the second half
  refine Wp.bind (P := fun r => r.1 = .nrm ∧ ∃ C2 : List (Str × Str), C2.Perm (A2 ++ B2) ∧ C2.Pairwise S ∧ r.2.2[o]? = some (.row ty109 2 ((P ++ (C1 ++ C2) ++ Q).map fld)) ∧ Same o g' r.2.2) ?_ ?_
  · by_cases c1 : 0 < A2.length
    · have d1 : decide ((mid : Int) < ((mm + B1.length : Nat) : Int)) = true := decide_eq_true (by omega)
      by_cases c2 : 0 < B2.length
      · have d2 : decide (((mm + B1.length : Nat) : Int) < (bb : Int)) = true := decide_eq_true (by omega)
        simp only [d1, d2, Bool.and_self, dIf_bool, if_true]
        refine Wp.bind (ih g2 (P ++ C1) A2 B2 Q _ _ _ (by omega) (by simp only [List.length_append]; omega) c1 c2 sA.2.1 sB.2.1 (fun x hx y hy => hp x (by simp [-bind_some, hx]) y (by simp [-bind_some, hy])) (by rw [p2]; simp [-bind_some]) (by simp only [List.length_append]; omega) (by simp only [List.length_append]; omega) (by simp only [List.length_append]; omega)) ?_
        rintro ⟨d, g3⟩ ⟨C, q1, q2, q3, q4⟩
        exact .some ⟨rfl, C, q1, q2, by rw [q3]; simp [-bind_some], s2.trans q4⟩
      · have e2 : B2 = [] := List.eq_nil_of_length_eq_zero (by omega)
        subst e2
        have d2 : decide (((mm + B1.length : Nat) : Int) < (bb : Int)) = false := decide_eq_false (by simp only [List.length_nil] at *; omega)
        simp only [d1, d2, Bool.and_false, dIf_bool, Bool.false_eq_true, if_false]
        exact .some ⟨rfl, A2, by simp, sA.2.1, by simp only [p2]; simp [-bind_some], s2⟩
    · have e2 : A2 = [] := List.eq_nil_of_length_eq_zero (by omega)
      subst e2
      have d1 : decide ((mid : Int) < ((mm + B1.length : Nat) : Int)) = false := decide_eq_false (by simp only [List.length_nil] at *; omega)
      simp only [d1, Bool.false_and, dIf_bool, Bool.false_eq_true, if_false]
      exact .some ⟨rfl, B2, by simp, sB.2.1, by simp only [p2]; simp [-bind_some], s2⟩
  rintro ⟨ex, ds, g3⟩ ⟨rfl, C2, r3, r4, p3, s3⟩
  simp only [exEnd_nrm, bs]
  obtain ⟨v1, v2⟩ := halves od (List.pairwise_append.2 sA) (List.pairwise_append.2 sB) hp h1 h2 r1 r2 r3 r4
  exact .some ⟨C1 ++ C2, v1, v2, p3, s3⟩
theorem w1066 {c : Str × Str → Str × Str → Int} {S Pre : Str × Str → Str × Str → Prop} (od : SOrd c S Pre) {cmp : D} (hcmp : CmpF cmp c) {o N : Nat} (hN : N ≤ 1000000000) : ∀ n, MergeOK c S Pre cmp o N n
  | 0 => fun g P A B Q a m b h0 _ h1 => by omega
  | n + 1 => fun g P A B Q a m b h0 hlen hA hB sA sB hp ho ha hm hb => by
    have ih := w1066 od hcmp (o := o) hN n
    have hl := hlen
    simp only [List.length_append] at hl
    by_cases c1 : A.length = 1
    · obtain ⟨x, rfl⟩ := List.length_eq_one_iff.1 c1
      have := w1066a (g := g) (o := o) (N := N) (P := P) (B := B) (Q := Q) (x := x) hN (by simpa using hlen) (by simpa using ho) cmp c hcmp a m b ha (by rw [hm]; rfl) (by rw [hb]; rfl) (f := some) (R1 := fun p => ∃ C : List (Str × Str), C.Perm ([x] ++ B) ∧ C.Pairwise S ∧ p.2[o]? = some (.row ty109 2 ((P ++ C ++ Q).map fld)) ∧ Same o g p.2)
        (fun g' B1 B2 e h1 h2 p1 s1 => .some ⟨B1 ++ x :: B2, by rw [e]; exact List.perm_middle, by
          subst e
          rw [List.pairwise_append] at sB ⊢
          refine ⟨sB.1, List.pairwise_cons.2 ⟨?_, sB.2.1⟩, ?_⟩
          · rcases h2 with rfl | ⟨y, r, rfl, hy⟩
            · intro z hz; cases hz
            · have hxy := od.ge x y (hp x (by simp) y (by simp)) hy
              intro z hz
              rcases List.mem_cons.1 hz with rfl | hz
              · exact hxy
              · exact od.tr _ _ _ hxy ((List.pairwise_cons.1 sB.2.1).1 z hz)
          · have hx1 : ∀ u ∈ B1, S u x := by
              rcases h1 with rfl | ⟨y, r, rfl, hy⟩
              · intro z hz; cases hz
              · have hyx := od.lt x y (hp x (by simp) y (by simp)) hy
                intro z hz
                rcases List.mem_append.1 hz with hz | hz
                · exact od.tr _ _ _ ((List.pairwise_append.1 sB.1).2.2 z hz y (by simp)) hyx
                · simp at hz; subst hz; exact hyx
            intro u hu v hv
            rcases List.mem_cons.1 hv with rfl | hv
            · exact hx1 u hu
            · exact sB.2.2 u hu v hv, by rw [p1], s1⟩)
      rwa [show ∀ x : Option (D × Hp), x.bind some = x from fun x => by cases x <;> rfl] at this
    · by_cases c2 : B.length = 1
      · obtain ⟨x, rfl⟩ := List.length_eq_one_iff.1 c2
        have := w1066b (g := g) (o := o) (N := N) (P := P) (A := A) (Q := Q) (x := x) hN (by simpa using hlen) c1 (by simpa using ho) cmp c hcmp a m b ha (by rw [hm]) (by rw [hb]; rfl) (f := some) (R1 := fun p => ∃ C : List (Str × Str), C.Perm (A ++ [x]) ∧ C.Pairwise S ∧ p.2[o]? = some (.row ty109 2 ((P ++ C ++ Q).map fld)) ∧ Same o g p.2)
          (fun g' A1 A2 e h1 h2 p1 s1 => .some ⟨A1 ++ x :: A2, by rw [e]; exact List.perm_middle.trans (by simpa using (List.perm_append_comm (l₁ := [x]) (l₂ := A1 ++ A2))), pw_ins od (by rw [← e]; exact sA) (fun y hy => hp y (by rw [e]; exact hy) x (by simp)) h2 h1, by rw [p1], s1⟩)
        rwa [show ∀ x : Option (D × Hp), x.bind some = x from fun x => by cases x <;> rfl] at this
      · have r := w1066r od hcmp hN ih h0 hlen hA hB sA sB hp ho ha hm hb
        rw [e1066]
        have v1 : IntKind.wrap .i64 (m - a) = (A.length : Int) := by rw [hm, ha, wrap_i64 (by omega) (by omega)]; omega
        have v2 : IntKind.wrap .i64 (b - m) = (B.length : Int) := by rw [hm, hb, wrap_i64 (by omega) (by omega)]; omega
        have d1 : decide ((A.length : Int) = 1) = false := decide_eq_false (by omega)
        have d2 : decide ((B.length : Int) = 1) = false := decide_eq_false (by omega)
        simp only [F1066, F1066_R0, bs, dBin_sub, v1, v2, dBin_eql, d1, d2, dIf_bool, Bool.false_eq_true, if_false]
        exact r
theorem Blk.len {α : Type} {S Pre : α → α → Prop} {k : Nat} {l : List α} (h : Blk S Pre k l) (hl : l.length < k) : l.Pairwise S := h.all (by omega)
theorem pre_split {α : Type} {Pre : α → α → Prop} {A B : List α} (h : (A ++ B).Pairwise Pre) : A.Pairwise Pre ∧ B.Pairwise Pre ∧ ∀ x ∈ A, ∀ y ∈ B, Pre x y := List.pairwise_append.1 h
theorem ins_wp {c : Str × Str → Str × Str → Int} {S Pre : Str × Str → Str × Str → Prop} (od : SOrd c S Pre) {cmp : D} (hcmp : CmpF cmp c) {o N : Nat} (hN : N ≤ 1000000000) {g : Hp} {P A Q : List (Str × Str)} (hlen : (P ++ A ++ Q).length = N) (hA : A.Pairwise Pre)
    (ho : g[o]? = some (.row ty109 2 ((P ++ A ++ Q).map fld))) (a b : Int) (ha : a = P.length) (hb : b = (P.length + A.length : Nat)) :
    Wp (R fn1065 [.msl 2 o 0 N, .int .i64 a, .int .i64 b, cmp] g) fun p => ∃ C : List (Str × Str), C.Perm A ∧ C.Pairwise S ∧ p.2[o]? = some (.row ty109 2 ((P ++ C ++ Q).map fld)) ∧ Same o g p.2 := by
  subst ha hb
  have hl := hlen
  simp only [List.length_append] at hl
  obtain ⟨d, h', e, p1, s1⟩ := s1065 c cmp hcmp o N P.length (P.length + A.length) hN (by omega) (by omega) _ hlen g ho
  refine ⟨(d, h'), e, ?_⟩
  cases A with
  | nil =>
    refine ⟨[], by simp, List.Pairwise.nil, ?_, s1⟩
    rw [p1]
    simp [-bind_some, isr]
  | cons x A =>
    obtain ⟨C, q1, q2, q3⟩ := isr_ok od P Q A [x] (by simp) (fun u hu v hv => by simp at hu; subst hu; exact (List.pairwise_cons.1 hA).1 v hv) (List.pairwise_cons.1 hA).2
    refine ⟨C, q2, q3, ?_, s1⟩
    rw [p1]
    have e1 : P.length + (x :: A).length - (P.length + 1) = A.length := by simp; omega
    rw [e1]
    have e2 : P ++ x :: A ++ Q = P ++ [x] ++ A ++ Q := by simp
    rw [e2]
    exact congrArg (fun z : List (Str × Str) => some (Ob.row ty109 2 (z.map fld))) q1
theorem w1063 {c : Str × Str → Str × Str → Int} {S Pre : Str × Str → Str × Str → Prop} (od : SOrd c S Pre) {cmp : D} (hcmp : CmpF cmp c) {o N : Nat} (hN : N ≤ 1000000000) {g : Hp} {l : List (Str × Str)} (hl : l.length = N) (hpre : l.Pairwise Pre)
    (ho : g[o]? = some (.row ty109 2 (l.map fld))) : Wp (R fn1063 [.msl 2 o 0 N, .int .i64 N, cmp] g) fun p => ∃ C : List (Str × Str), C.Perm l ∧ C.Pairwise S ∧ p.2[o]? = some (.row ty109 2 (C.map fld)) ∧ Same o g p.2 := by
  rw [e1063]
  simp only [F1063, bs, Option.bind_assoc]
  refine Wp.loop (fun n ds g' => ∃ u, ∃ X Y : List (Str × Str), ds = [.int .i64 (X.length : Nat), .int .i64 ((X.length + 20 : Nat) : Int), u] ∧ n = Y.length ∧ (X ++ Y).Perm l ∧ Y.Pairwise Pre ∧ CtxB S Pre 20 X Y ∧ g'[o]? = some (.row ty109 2 ((X ++ Y).map fld)) ∧ Same o g g')
    (fun r => r.1 = .ext 0 ∧ ∃ u, ∃ X Y : List (Str × Str), r.2.1 = [.int .i64 (X.length : Nat), .int .i64 ((X.length + 20 : Nat) : Int), u] ∧ Y.length < 20 ∧ (X ++ Y).Perm l ∧ Y.Pairwise Pre ∧ CtxB S Pre 20 X Y ∧ r.2.2[o]? = some (.row ty109 2 ((X ++ Y).map fld)) ∧ Same o g r.2.2)
    l.length ⟨_, [], l, rfl, rfl, by simp, hpre, CtxB.nil, by simpa using ho, .refl _ _⟩ ?_ ?_
  · rintro n ds g' ⟨u, X, Y, rfl, rfl, hp, hY, hc, ho', sm⟩
    have hXY : X.length + Y.length = N := by rw [← hl, ← hp.length_eq]; simp [-bind_some]
    simp only [F1063_L0, nth_zero, nth_succ, bs, Option.bind_assoc, dBin_leq]
    refine Wp.dif ?_ ?_
    · intro h0
      have h0 : 20 ≤ Y.length := by have : ((X.length + 20 : Nat) : Int) ≤ (N : Int) := by simpa using h0
                                    omega
      obtain ⟨A, Y', rfl, hA⟩ : ∃ A Y', Y = A ++ Y' ∧ A.length = 20 := ⟨Y.take 20, Y.drop 20, (List.take_append_drop _ _).symm, by simp; omega⟩
      obtain ⟨y1, y2, y3⟩ := pre_split hY
      simp only [List.length_append] at hXY h0
      refine Wp.bind (ins_wp od hcmp hN (P := X) (A := A) (Q := Y') (by simp only [List.length_append]; omega) y1 (by rw [ho']; simp [-bind_some]) _ _ rfl (by omega)) ?_
      rintro ⟨d, g2⟩ ⟨C, q1, q2, q3, q4⟩
      have lC : C.length = 20 := by rw [q1.length_eq, hA]
      have w1 : IntKind.wrap .i64 (((X.length + 20 : Nat) : Int) + 20) = ((X.length + 20 + 20 : Nat) : Int) := by rw [wrap_i64 (by omega) (by omega)]; omega
      simp only [dBin_add, w1, bs]
      have eX : (X ++ C).length = X.length + 20 := by simp [-bind_some, lC]
      refine .some (.inl ⟨rfl, Y'.length, by simp only [List.length_append]; omega, _, X ++ C, Y', by rw [eX], rfl, ?_, y2, hc.step q1 lC q2 y3, q3, sm.trans q4⟩)
      refine List.Perm.trans ?_ hp
      rw [List.append_assoc]
      exact (q1.append_right Y').append_left X
    · intro h0
      have h0 : ¬ 20 ≤ Y.length := by have : ¬ ((X.length + 20 : Nat) : Int) ≤ (N : Int) := by simpa using h0
                                      omega
      exact .some (.inr ⟨by simp, rfl, _, X, Y, rfl, by omega, hp, hY, hc, ho', sm⟩)
  rintro ⟨ex, ds, g1⟩ ⟨rfl, u, X, Y, rfl, hYl, hp, hY, hc, ho1, s1⟩
  have hXY : X.length + Y.length = N := by rw [← hl, ← hp.length_eq]; simp [-bind_some]
  simp only [unblk_self, toEnd_nrm, nth_zero, nth_succ, bs]
  refine Wp.bind (ins_wp od hcmp hN (P := X) (A := Y) (Q := []) (by simp only [List.length_append, List.length_nil]; omega) hY (by simpa using ho1) _ _ rfl (by omega)) ?_
  rintro ⟨d, g2⟩ ⟨C, q1, q2, q3, q4⟩
  have bl : Blk S Pre 20 (X ++ C) := hc.done q1 (by rw [q1.length_eq]; omega) q2
  have hpZ : (X ++ C).Perm l := (q1.append_left X).trans hp
  have q3 : g2[o]? = some (.row ty109 2 ((X ++ C).map fld)) := by simpa using q3
  have s2 : Same o g g2 := s1.trans q4
  generalize X ++ C = Z at bl hpZ q3
  clear q1 q2 hc hY ho1 s1 q4
  simp only [bs, Option.bind_assoc]
  refine Wp.loop (fun n ds g' => ∃ u1 u2 u3 u4 u5 u6, ∃ k : Nat, ∃ Z : List (Str × Str), ds = [.int .i64 (k : Int), u1, u2, u3, u4, u5, u6] ∧ n = N - k ∧ 0 < k ∧ k ≤ 2000000000 ∧ Z.Perm l ∧ Blk S Pre k Z ∧ g'[o]? = some (.row ty109 2 (Z.map fld)) ∧ Same o g g')
    (fun r => r.1 = .ext 2 ∧ ∃ u1 u2 u3 u4 u5 u6 u7, r.2.1 = [u1, u2, u3, u4, u5, u6, u7] ∧ ∃ Z : List (Str × Str), Z.Perm l ∧ Z.Pairwise S ∧ r.2.2[o]? = some (.row ty109 2 (Z.map fld)) ∧ Same o g r.2.2)
    (N - 20) ⟨_, _, _, _, _, _, 20, Z, rfl, rfl, by omega, by omega, hpZ, bl, q3, s2⟩ ?_ ?_
  · clear q3 s2 bl hpZ Z hXY hp
    rintro n ds g3 ⟨u1, u2, u3, u4, u5, u6, k, Z, rfl, rfl, k0, k1, hp, bl, ho3, s3⟩
    have lZ : Z.length = N := by rw [hp.length_eq, hl]
    simp only [F1063_L1, nth_zero, nth_succ, bs, Option.bind_assoc, dBin_lss]
    refine Wp.dif ?_ ?_
    · intro h0
      have h0 : k < N := by have : (k : Int) < (N : Int) := by simpa using h0
                            omega
      have w1 : IntKind.wrap .i64 ((2 : Int) * (k : Int)) = ((2 * k : Nat) : Int) := by rw [wrap_i64 (by omega) (by omega)]; omega
      simp only [dBin_mul, w1, bs, Option.bind_assoc]
      refine Wp.loop (fun n ds g' => ∃ u, ∃ X Y : List (Str × Str), ds = [.int .i64 (X.length : Nat), .int .i64 ((X.length + 2 * k : Nat) : Int), u] ∧ n = Y.length ∧ (X ++ Y).Perm l ∧ Blk S Pre k Y ∧ CtxB S Pre (2 * k) X Y ∧ g'[o]? = some (.row ty109 2 ((X ++ Y).map fld)) ∧ Same o g g')
        (fun r => r.1 = .ext 4 ∧ ∃ u v, ∃ X Y : List (Str × Str), r.2.1 = [.int .i64 (X.length : Nat), u, v] ∧ Y.length < 2 * k ∧ (X ++ Y).Perm l ∧ Blk S Pre k Y ∧ CtxB S Pre (2 * k) X Y ∧ r.2.2[o]? = some (.row ty109 2 ((X ++ Y).map fld)) ∧ Same o g r.2.2)
        N ⟨u5, [], Z, by simp, lZ.symm, by simpa using hp, bl, CtxB.nil, by simpa using ho3, s3⟩ ?_ ?_
      · rintro n ds g4 ⟨u, X, Y, rfl, rfl, hp4, bl4, hc4, ho4, s4⟩
        have hXY : X.length + Y.length = N := by rw [← hl, ← hp4.length_eq]; simp [-bind_some]
        simp only [F1063_L2, nth_zero, nth_succ, bs, Option.bind_assoc, dBin_leq]
        refine Wp.dif ?_ ?_
        · intro h1
          have h1 : 2 * k ≤ Y.length := by have : ((X.length + 2 * k : Nat) : Int) ≤ (N : Int) := by simpa using h1
                                           omega
          obtain ⟨A, Y1, rfl, lA, sA, pA, bY1⟩ := bl4.fst (by omega)
          simp only [List.length_append] at hXY h1
          obtain ⟨B, Y2, rfl, lB, sB, pB, bY2⟩ := bY1.fst (by omega)
          simp only [List.length_append] at hXY h1
          have w2 : IntKind.wrap .i64 ((X.length : Int) + (k : Int)) = ((X.length + A.length : Nat) : Int) := by rw [wrap_i64 (by omega) (by omega)]; omega
          simp only [dBin_add, w2, bs, Option.bind_assoc]
          refine Wp.bind (w1066 od hcmp hN (A.length + B.length) g4 X A B Y2 _ _ _ (Nat.le_refl _) (by simp only [List.length_append]; omega) (by omega) (by omega) sA sB (fun x hx y hy => pA x hx y (by simp [-bind_some, hy])) (by rw [ho4]; simp [-bind_some]) rfl rfl (by omega)) ?_
          rintro ⟨d, g5⟩ ⟨C, q1, q2, q3, q4⟩
          have lC : C.length = 2 * k := by rw [q1.length_eq, List.length_append]; omega
          have w3 : IntKind.wrap .i64 (((X.length + 2 * k : Nat) : Int) + ((2 * k : Nat) : Int)) = ((X.length + 2 * k + 2 * k : Nat) : Int) := by rw [wrap_i64 (by omega) (by omega)]; omega
          simp only [dBin_mul, dBin_add, w1, w3, bs]
          have eX : (X ++ C).length = X.length + 2 * k := by simp [-bind_some, lC]
          refine .some (.inl ⟨rfl, Y2.length, by simp only [List.length_append]; omega, _, X ++ C, Y2, by rw [eX], rfl, ?_, bY2, CtxB.step (A := A ++ B) (by rw [List.append_assoc]; exact hc4) q1 lC q2 (fun x hx y hy => ?_), q3, s4.trans q4⟩)
          · refine List.Perm.trans ?_ hp4
            rw [List.append_assoc, ← List.append_assoc A B Y2]
            exact (q1.append_right Y2).append_left X
          · rcases List.mem_append.1 hx with hx | hx
            · exact pA x hx y (by simp [-bind_some, hy])
            · exact pB x hx y hy
        · intro h1
          have h1 : ¬ 2 * k ≤ Y.length := by have : ¬ ((X.length + 2 * k : Nat) : Int) ≤ (N : Int) := by simpa using h1
                                             omega
          exact .some (.inr ⟨by simp, rfl, _, _, X, Y, rfl, by omega, hp4, bl4, hc4, ho4, s4⟩)
      rintro ⟨ex, ds, g4⟩ ⟨rfl, u, v, X, Y, rfl, hYl, hp4, bl4, hc4, ho4, s4⟩
      have hXY : X.length + Y.length = N := by rw [← hl, ← hp4.length_eq]; simp [-bind_some]
      have w2 : IntKind.wrap .i64 ((X.length : Int) + (k : Int)) = ((X.length + k : Nat) : Int) := by rw [wrap_i64 (by omega) (by omega)]; omega
      have w4 : IntKind.wrap .i64 ((k : Int) * 2) = ((2 * k : Nat) : Int) := by rw [wrap_i64 (by omega) (by omega)]; omega
      simp only [unblk_self, toEnd_nrm, nth_zero, nth_succ, bs, dBin_add, w2, dBin_lss, Option.bind_assoc]
      refine Wp.bind (P := fun r => r.1 = .nrm ∧ ∃ Z : List (Str × Str), Z.Perm l ∧ Blk S Pre (2 * k) Z ∧ r.2.2[o]? = some (.row ty109 2 (Z.map fld)) ∧ Same o g r.2.2) ?_ ?_
      · by_cases hm : X.length + k < N
        · have d1 : decide (((X.length + k : Nat) : Int) < (N : Int)) = true := decide_eq_true (by omega)
          obtain ⟨A, B, rfl, lA, sA, pA, bB⟩ := bl4.fst (by omega)
          simp only [List.length_append] at hXY hYl
          have sB : B.Pairwise S := bB.all (by omega)
          simp only [d1, dIf_bool, if_true]
          refine Wp.bind (w1066 od hcmp hN (A.length + B.length) g4 X A B [] _ _ _ (Nat.le_refl _) (by simp only [List.length_append, List.length_nil]; omega) (by omega) (by omega) sA sB pA (by rw [ho4]; simp [-bind_some]) rfl (by omega) (by omega)) ?_
          rintro ⟨d, g5⟩ ⟨C, q1, q2, q3, q4⟩
          refine .some ⟨rfl, X ++ C, (q1.append_left X).trans hp4, hc4.done q1 (by rw [q1.length_eq, List.length_append]; omega) q2, by simpa using q3, s4.trans q4⟩
        · have d1 : decide (((X.length + k : Nat) : Int) < (N : Int)) = false := decide_eq_false (by omega)
          simp only [d1, dIf_bool, Bool.false_eq_true, if_false]
          exact .some ⟨rfl, X ++ Y, hp4, hc4.done (List.Perm.refl _) (by omega) (bl4.all (by omega)), ho4, s4⟩
      rintro ⟨ex, ds, g5⟩ ⟨rfl, Z2, hp5, bl5, ho5, s5⟩
      simp only [toEnd_nrm, bs, w4]
      exact .some (.inl ⟨rfl, N - 2 * k, by omega, _, _, _, _, _, _, 2 * k, Z2, rfl, rfl, by omega, by omega, hp5, bl5, ho5, s5⟩)
    · intro h0
      have h0 : ¬ k < N := by have : ¬ (k : Int) < (N : Int) := by simpa using h0
                              omega
      exact .some (.inr ⟨by simp, rfl, _, _, _, _, _, _, _, rfl, Z, hp, bl.all (by omega), ho3, s3⟩)
  rintro ⟨ex, ds, g3⟩ ⟨rfl, u1, u2, u3, u4, u5, u6, u7, rfl, Z3, hp3, sZ, ho3, s3⟩
  simp only [unblk_self, exEnd_nrm, bs]
  exact .some ⟨Z3, hp3, sZ, ho3, s3⟩
def leS (x y : Str × Str) : Prop := ¬ cF y x < 0
end Go.Proofs.YthaajlepgblimaaDoor
