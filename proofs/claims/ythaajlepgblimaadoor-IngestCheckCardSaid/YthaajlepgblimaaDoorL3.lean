/- Laws, on plain data, about functions that the statement reaches. -/
import Derived.Test.YthaajlepgblimaaDoorL2
set_option linter.unusedSimpArgs false
set_option linter.unusedVariables false
set_option linter.unnecessarySimpa false
set_option maxRecDepth 100000
namespace Go.Proofs.YthaajlepgblimaaDoor
open Go.Eng Go.Pi
open Option (bind_some)
theorem l1052a (l : List (Str × Str)) (d : D) (h : Hp) (hd : SlOf 2 fld l d) (hl : l.length ≤ 1000) {β : Type} {K : Out → Option β} {Q : β → Prop} (a b c e f : D)
    (k1 : l.all (fun p => fnameOK p.1) = true → ∀ x y z w, Wp (K (.ext 0, [a, b, x, y, z, w], h)) Q) (k2 : ¬ l.all (fun p => fnameOK p.1) = true → ∀ x y z w, Wp (K (.ret, [.nils, .int .i64 6, x, y, z, w], h)) Q) :
    Wp ((loopW (F1052_L0 d (.int .i64 l.length)) [a, b, c, .int .i64 0, e, f] h).bind K) Q := by
  generalize hV : l.all (fun p => fnameOK p.1) = V at k1 k2
  refine Wp.loop (fun k ds g => g = h ∧ ∃ c e f, ∃ i : Nat, ds = [a, b, c, .int .i64 i, e, f] ∧ k + i = l.length ∧ (l.drop i).all (fun p => fnameOK p.1) = V)
      (fun x => x.2.2 = h ∧ ((x.1 = .ext 0 ∧ V = true ∧ ∃ p q r s, x.2.1 = [a, b, p, q, r, s]) ∨ (x.1 = .ret ∧ V = false ∧ ∃ p q r s, x.2.1 = [.nils, .int .i64 6, p, q, r, s]))) l.length ⟨rfl, _, _, _, 0, rfl, rfl, hV⟩ ?_ ?_
  · rintro k ds g ⟨rfl, c, e, f, i, rfl, hk, hch⟩
    simp only [F1052_L0, nth_zero, nth_succ, bs, Option.bind_assoc, dBin_lss]
    refine Wp.dif ?_ ?_
    · intro h0
      have h0 : i < l.length := by have : (i : Int) < l.length := by simpa using h0
                                   omega
      have hg : l[i]? = some l[i] := List.getElem?_eq_getElem h0
      have hw : IntKind.wrap .i64 ((i : Int) + 1) = ((i + 1 : Nat) : Int) := by
        rw [wrap_i64 (by omega) (by omega)]; omega
      rw [List.drop_eq_getElem_cons h0] at hch
      generalize l[i] = x at hg hch
      have hbx : boxN 2 (.agg (fld x)) = some (.fptr (fld x)) := boxN_agg 2 _ rfl
      simp only [ixs29 hd, Int.natCast_nonneg, if_true, Int.toNat_natCast, hg, Option.map_some, bs, fld_ld, hbx, fld_f0 x, fld_l0, s1056, dUn_not]
      simp only [List.all_cons] at hch
      cases hf : fnameOK x.1
      · rw [hf] at hch
        simp only [Bool.not_false, dIf_bool, if_true]
        exact .some (.inr ⟨by simp, rfl, .inr ⟨rfl, hch.symm, _, _, _, _, rfl⟩⟩)
      · rw [hf] at hch
        simp only [Bool.not_true, dIf_bool, Bool.false_eq_true, if_false, dBin_add, bs, hw]
        exact .some (.inl ⟨rfl, k - 1, by omega, rfl, _, _, _, i + 1, rfl, by omega, hch⟩)
    · intro h0
      have h0 : l.length ≤ i := by have : ¬ (i : Int) < l.length := by simpa using h0
                                   omega
      rw [List.drop_of_length_le h0] at hch
      exact .some (.inr ⟨by simp, rfl, .inl ⟨rfl, hch.symm, _, _, _, _, rfl⟩⟩)
  · rintro ⟨x, ds, g⟩ ⟨h2, h3⟩
    simp only at h2 h3
    subst h2
    rcases h3 with ⟨rfl, hv, p, q, r, s, rfl⟩ | ⟨rfl, hv, p, q, r, s, rfl⟩
    · exact k1 hv _ _ _ _
    · exact k2 (by rw [hv]; simp [-bind_some]) _ _ _ _
theorem l1052b (l : List (Str × Str)) (d : D) (h : Hp) (hd : RdF h l d) (hl : l.length ≤ 1000) {β : Type} {K : Out → Option β} {Q : β → Prop} (a b c e : D)
    (k1 : adjB l = false → ∀ x y z, Wp (K (.ext 2, [a, b, x, y, z], h)) Q) (k2 : adjB l = true → ∀ x y z, Wp (K (.ret, [.nils, .int .i64 7, x, y, z], h)) Q) :
    Wp ((loopW (F1052_L1 d) [a, b, .int .i64 1, c, e] h).bind K) Q := by
  generalize hV : adjB l = V at k1 k2
  refine Wp.loop (fun k ds g => g = h ∧ ∃ c e, ∃ i : Nat, ds = [a, b, .int .i64 ((i + 1 : Nat) : Int), c, e] ∧ k = l.length - i ∧ adjB (l.drop i) = V)
      (fun x => x.2.2 = h ∧ ((x.1 = .ext 2 ∧ V = false ∧ ∃ p q r, x.2.1 = [a, b, p, q, r]) ∨ (x.1 = .ret ∧ V = true ∧ ∃ p q r, x.2.1 = [.nils, .int .i64 7, p, q, r]))) l.length ⟨rfl, _, _, 0, rfl, rfl, hV⟩ ?_ ?_
  · rintro k ds g ⟨rfl, c, e, i, rfl, hk, hch⟩
    simp only [F1052_L1, nth_zero, nth_succ, bs, Option.bind_assoc, rdF_len hd, dBin_lss]
    refine Wp.dif ?_ ?_
    · intro h0
      have h0 : i + 1 < l.length := by have : ((i + 1 : Nat) : Int) < l.length := by simpa using h0
                                       omega
      have g1 : l[i + 1]? = some l[i + 1] := List.getElem?_eq_getElem h0
      have g0 : l[i]? = some l[i] := List.getElem?_eq_getElem (by omega)
      have hw : IntKind.wrap .i64 (((i + 1 : Nat) : Int) + 1) = ((i + 1 + 1 : Nat) : Int) := by
        rw [wrap_i64 (by omega) (by omega)]; omega
      have hw2 : IntKind.wrap .i64 (((i + 1 : Nat) : Int) - 1) = (i : Int) := by
        rw [wrap_i64 (by omega) (by omega)]; omega
      rw [List.drop_eq_getElem_cons (show i < l.length by omega), List.drop_eq_getElem_cons h0] at hch
      unfold adjB at hch
      rw [← List.drop_eq_getElem_cons h0] at hch
      generalize l[i + 1] = x at g1 hch
      generalize l[i] = y at g0 hch
      obtain ⟨q1, a1, _, r1, b1, c1⟩ := rdF_ix hd (i + 1) x g1
      obtain ⟨q0, a0, _, r0, b0, c0⟩ := rdF_ix hd i y g0
      simp only [a1, a0, b1, b0, c1, c0, bs, dBin_sub, hw2, dBin_seql]
      cases hf : (x.1 == y.1)
      · rw [hf] at hch
        simp only [dIf_bool, Bool.false_eq_true, if_false, dBin_add, bs, hw]
        exact .some (.inl ⟨rfl, l.length - (i + 1), by omega, rfl, _, _, i + 1, rfl, rfl, hch⟩)
      · rw [hf] at hch
        simp only [dIf_bool, if_true]
        exact .some (.inr ⟨by simp, rfl, .inr ⟨rfl, hch.symm, _, _, _, rfl⟩⟩)
    · intro h0
      have h0 : l.length ≤ i + 1 := by have : ¬ ((i + 1 : Nat) : Int) < l.length := by simpa using h0
                                       omega
      have hv : V = false := by
        rw [← hch]
        have : (l.drop i).length ≤ 1 := by simp; omega
        match l.drop i, this with
        | [], _ => rfl
        | [x], _ => rfl
      exact .some (.inr ⟨by simp, rfl, .inl ⟨rfl, hv, _, _, _, rfl⟩⟩)
  · rintro ⟨x, ds, g⟩ ⟨h2, h3⟩
    simp only at h2 h3
    subst h2
    rcases h3 with ⟨rfl, hv, p, q, r, rfl⟩ | ⟨rfl, hv, p, q, r, rfl⟩
    · exact k1 hv _ _ _
    · exact k2 hv _ _ _
theorem s1057e (d cmp : D) (h : Hp) (hd : SlOf 2 fld [] d) : ∃ x, R fn1057 [d, cmp] h = some (x, h) := by
  have hl : dLenT tab ty29 d = some (.int .i64 0) := lens29 hd
  have h65 : ∃ x, R fn1065 [d, .int .i64 0, .int .i64 0, cmp] h = some (x, h) := by
    rw [e1065]
    refine ⟨mkRes [], ?_⟩
    simp only [F1065, bs, Option.bind_assoc, dBin_add, show IntKind.wrap .i64 ((0 : Int) + 1) = 1 from rfl]
    rw [loopW_eq]
    simp [-bind_some, F1065_L0]
  obtain ⟨x, h65⟩ := h65
  have h63 : ∃ x, R fn1063 [d, .int .i64 0, cmp] h = some (x, h) := by
    rw [e1063]
    refine ⟨mkRes [], ?_⟩
    simp only [F1063, bs, Option.bind_assoc]
    rw [loopW_eq]
    have h20 : ¬ (20 : Int) ≤ 0 := by omega
    have h21 : ¬ (20 : Int) < 0 := by omega
    simp only [F1063_L0, nth_zero, nth_succ, bs, dBin_leq, h20, decide_false, dIf_bool, Bool.false_eq_true, if_false, unblk_self, toEnd_nrm, h65]
    rw [loopW_eq]
    simp only [F1063_L1, nth_zero, nth_succ, bs, dBin_lss, h21, decide_false, dIf_bool, Bool.false_eq_true, if_false, unblk_self, exEnd_nrm]
  obtain ⟨y, h63⟩ := h63
  refine ⟨mkRes [], ?_⟩
  rw [e1057]
  simp only [F1057, bs, hl, h63]
theorem s1052 (l : List (Str × Str)) (d : D) (h : Hp) (hd : SlOf 2 fld l d) (hl : l.length ≤ 20) : ∃ d' h', R fn1052 [d] h = some (.tup [d', .int .i64 (sortF l).1], h') ∧ h.length ≤ h'.length ∧ (∀ q, q < h.length → h'[q]? = h[q]?) ∧ ((sortF l).1 = 0 → RdF h' (sortF l).2 d') := by
  suffices Wp (R fn1052 [d] h) (fun p => ∃ d', p.1 = .tup [d', .int .i64 (sortF l).1] ∧ h.length ≤ p.2.length ∧ (∀ q, q < h.length → p.2[q]? = h[q]?) ∧ ((sortF l).1 = 0 → RdF p.2 (sortF l).2 d')) by
    obtain ⟨⟨x, h'⟩, h1, d', rfl, h2⟩ := this
    exact ⟨d', h', h1, h2⟩
  rw [e1052]
  have h32 : ¬ (32 : Int) < (l.length : Int) := by omega
  have h32n : ¬ 32 < l.length := by omega
  simp only [F1052, bs, Option.bind_assoc, lens29 hd, dBin_gtr, h32, decide_false, dIf_bool, Bool.false_eq_true, if_false]
  refine l1052a l d h hd (by omega) _ _ _ _ _ (fun hv x y z w => ?_) (fun hv x y z w => ?_)
  · simp only [unblk_self, toEnd_nrm, nth_zero, nth_succ, bs]
    obtain ⟨d1, h1, e1, hl1, hb1, hd1⟩ := u1009 l d h hd (by omega)
    simp only [e1, bs]
    have hsrt : ∃ x h2, R fn1057 [d1, .fn (.func fn1058) [] []] h1 = some (x, h2) ∧ h.length ≤ h2.length ∧ (∀ q, q < h.length → h2[q]? = h[q]?) ∧ RdF h2 (srt l) d1 := by
      rcases hd1 with ⟨rfl, hd1⟩ | ⟨ob, hob, rfl, ho⟩
      · obtain ⟨x, hx⟩ := s1057e d1 (.fn (.func fn1058) [] []) h1 hd1
        exact ⟨x, h1, hx, hl1, hb1, .inl hd1⟩
      · obtain ⟨x, h2, q1, q2, q3⟩ := s1057 cF (.fn (.func fn1058) [] []) (fun x y g => c1058 x y g) ob l.length hl l rfl h1 ho
        refine ⟨x, h2, q1, by have := q3.1; omega, fun q hq => (q3.2 q (by omega)).trans (hb1 q hq), .inr ⟨ob, by rw [srt_len], q2⟩⟩
    obtain ⟨u, h2, e2, hl2, hb2, hr⟩ := hsrt
    simp only [e2, bs]
    refine l1052b (srt l) d1 h2 hr (by rw [srt_len]; omega) _ _ _ _ (fun ha x y z => ?_) (fun ha x y z => ?_)
    · have hs : sortF l = (0, srt l) := by simp only [sortF, h32n, if_false, hv, if_true, ha, Bool.false_eq_true]
      rw [hs]
      simp only [unblk_self, toEnd_nrm, bs, mkRes_two]
      exact .some ⟨d1, rfl, hl2, hb2, fun _ => hr⟩
    · have hs : sortF l = (7, []) := by simp only [sortF, h32n, if_false, hv, if_true, ha]
      rw [hs]
      simp only [unblk_ret, toEnd_ret, exEnd_ret, nth_zero, nth_succ, bs, mkRes_two]
      exact .some ⟨.nils, rfl, hl2, hb2, fun hh => by cases hh⟩
  · have hs : sortF l = (6, []) := by simp only [sortF, h32n, if_false, hv]; rfl
    rw [hs]
    simp only [unblk_ret, toEnd_ret, exEnd_ret, nth_zero, nth_succ, bs, mkRes_two]
    exact .some ⟨.nils, rfl, Nat.le_refl _, fun _ _ => rfl, fun hh => by cases hh⟩
theorem s1053 (l r : List (Str × Str)) (d e : D) (h : Hp) (hd : RdF h l d) (he : RdF h r e) (hl : l.length ≤ 1000) : R fn1053 [d, e] h = some (.bool (decide (l = r)), h) := by
  suffices Wp (R fn1053 [d, e] h) (fun p => p = (.bool (decide (l = r)), h)) by
    obtain ⟨p, h1, rfl⟩ := this
    exact h1
  rw [e1053]
  simp only [F1053, bs, Option.bind_assoc, rdF_len hd, rdF_len he, dBin_neq]
  by_cases hlen : (l.length : Int) = (r.length : Int)
  · have hlen' : l.length = r.length := by omega
    simp only [hlen, ne_eq, not_true, decide_false, dIf_bool, Bool.false_eq_true, if_false]
    generalize hV : decide (l = r) = V
    refine Wp.loop (fun k ds g => g = h ∧ ∃ a b c f, ∃ i : Nat, ds = [a, b, .int .i64 i, c, f] ∧ k + i = r.length ∧ decide (l.drop i = r.drop i) = V)
      (fun x => x.2.2 = h ∧ ((x.1 = .ext 0 ∧ V = true) ∨ (x.1 = .ret ∧ V = false ∧ nth 0 x.2.1 = .bool false))) r.length ⟨rfl, _, _, _, _, 0, rfl, rfl, hV⟩ ?_ ?_
    · rintro k ds g ⟨rfl, a, b, c, f, i, rfl, hk, hch⟩
      simp only [F1053_L0, nth_zero, nth_succ, bs, Option.bind_assoc, dBin_lss]
      refine Wp.dif ?_ ?_
      · intro h0
        have h0 : i < r.length := by have : (i : Int) < r.length := by simpa using h0
                                     omega
        have gl : l[i]? = some l[i] := List.getElem?_eq_getElem (by omega)
        have gr : r[i]? = some r[i] := List.getElem?_eq_getElem h0
        have hw : IntKind.wrap .i64 ((i : Int) + 1) = ((i + 1 : Nat) : Int) := by
          rw [wrap_i64 (by omega) (by omega)]; omega
        rw [List.drop_eq_getElem_cons (show i < l.length by omega), List.drop_eq_getElem_cons h0] at hch
        generalize l[i] = x at gl hch
        generalize r[i] = y at gr hch
        obtain ⟨q1, a1, b1, _⟩ := rdF_ix hd i x gl
        obtain ⟨q0, a0, b0, _⟩ := rdF_ix he i y gr
        simp only [a1, a0, b1, b0, bs, fld_neq]
        by_cases hxy : x = y
        · subst hxy
          simp only [ne_eq, not_true, decide_false, dIf_bool, Bool.false_eq_true, if_false, dBin_add, bs, hw]
          exact .some (.inl ⟨rfl, k - 1, by omega, rfl, _, _, _, _, i + 1, rfl, by omega, by rw [← hch]; simp [-bind_some]⟩)
        · have hne : decide (x ≠ y) = true := by simpa using hxy
          simp only [hne, dIf_bool, if_true]
          exact .some (.inr ⟨by simp, rfl, .inr ⟨rfl, by rw [← hch]; simp [-bind_some, hxy], rfl⟩⟩)
      · intro h0
        have h0 : r.length ≤ i := by have : ¬ (i : Int) < r.length := by simpa using h0
                                     omega
        rw [List.drop_of_length_le h0, List.drop_of_length_le (by omega)] at hch
        exact .some (.inr ⟨by simp, rfl, .inl ⟨rfl, by rw [← hch]; simp [-bind_some]⟩⟩)
    · rintro ⟨x, ds, g⟩ ⟨h2, h3⟩
      simp only at h2 h3
      subst h2
      rcases h3 with ⟨rfl, hv⟩ | ⟨rfl, hv, hn⟩
      · simp only [unblk_self, toEnd_nrm, bs, mkRes_one, hv]
        exact .some rfl
      · simp only [unblk_ret, toEnd_ret, exEnd_ret, nth_zero, bs, hn, mkRes_one, hv]
        exact .some rfl
  · have hne : decide ((l.length : Int) ≠ (r.length : Int)) = true := by simpa using hlen
    have hlr : decide (l = r) = false := by
      simp [-bind_some]; intro hh; subst hh; exact hlen rfl
    simp only [hne, dIf_bool, if_true, mkRes_one, hlr]
    exact .some rfl
theorem l1060 (l : List (Str × Str)) (d : D) (fn : D) (pr : Str × Str → Bool) (h : Hp) (hd : RdF h l d) (hl : l.length ≤ 9223372036854775807) (hf : ∀ x, callV R fn [.agg (fld x)] h = some (.bool (pr x), h)) {β : Type} (K : Out → Option β) (X : Int → Option β)
   (hX : ∀ v r, K (.ret, .int .i64 v :: r, h) = X v) (hY : ∀ r, K (.ext 0, r, h) = X (-1)) : ∀ (suf pre : List (Str × Str)), l = pre ++ suf → ∀ a b e f,
   (loopW (F1060_L0 d fn (.int .i64 l.length)) [a, b, .int .i64 pre.length, e, f] h).bind K = X (idx pr pre.length suf) := by
  intro suf
  induction suf with
  | nil =>
    rintro pre rfl a b e f
    rw [loopW_eq]
    simp [-bind_some, F1060_L0, hY, idx]
  | cons p suf ih =>
    rintro pre rfl a b e f
    have hw : IntKind.wrap .i64 ((pre.length : Int) + 1) = (pre ++ [p]).length := by
      rw [wrap_i64 (by omega) (by simp at hl; omega)]; simp [-bind_some]
    have hlt : (pre.length : Int) < (pre ++ p :: suf).length := by simp; omega
    rw [loopW_eq]
    generalize hL : pre ++ p :: suf = L at *
    have hg : L[pre.length]? = some p := by rw [← hL]; exact get_mid _ _ _
    obtain ⟨q, a1, b1, _⟩ := rdF_ix hd _ _ hg
    by_cases hp : pr p = true
    · simp [-bind_some, F1060_L0, a1, b1, hlt, hf, hp, hX, idx]
    · have := ih (pre ++ [p]) (by simp [-bind_some, ← hL]) a (.int .i64 pre.length) (.bool true) (.bool (pr p))
      simp only [← hw] at this
      simp [-bind_some, F1060_L0, a1, b1, hlt, hf, hp, idx]
      simp [-bind_some, hp] at this
      exact this
theorem s1060 (l : List (Str × Str)) (d : D) (fn : D) (pr : Str × Str → Bool) (h : Hp) (hd : RdF h l d) (hl : l.length ≤ 9223372036854775807) (hf : ∀ x, callV R fn [.agg (fld x)] h = some (.bool (pr x), h)) :
   R fn1060 [d, fn] h = some (.int .i64 (idx pr 0 l), h) := by
  rw [e1060]
  simp only [F1060, bs, rdF_len hd, Option.bind_assoc]
  rw [show (0 : Int) = (([] : List (Str × Str)).length : Int) from rfl, l1060 l d fn pr h hd hl hf _ (fun v => some (.int .i64 v, h)) (fun v r => by simp) (fun r => by simp) l [] rfl]
  rfl
theorem s1055 (p : Str × Str) (h : Hp) : R fn1055 [.agg (fld p)] h = some (.bool (decide (2000 < p.2.length)), h) := by
  rw [e1055]
  simp [-bind_some, F1055, fld]
  omega
theorem s1054 (l : List (Str × Str)) (d : D) (h : Hp) (hd : RdF h l d) (hl : l.length ≤ 9223372036854775807) : R fn1054 [d, .fn (.func fn1055) [] []] h = some (.bool (l.any fun p => decide (2000 < p.2.length)), h) := by
  rw [e1054]
  simp only [F1054, bs, s1060 l d (.fn (.func fn1055) [] []) (fun p => decide (2000 < p.2.length)) h hd hl (fun x => by rw [callV_some]; exact s1055 x h), dBin_geq, mkRes_one]
  rw [idx_any]
theorem s1050 (l : Lin) (h : Hp) : R fn1050 [.agg (linr l)] h = some (.bool (!(l.txt == [])), h) := by
  rw [e1050]
  simp [-bind_some, F1050, linr]
theorem s1049 (l : List Lin) (d : D) (h : Hp) (hd : SlOf 3 linr l d) (hl : l.length ≤ 9223372036854775807) : R fn1049 [d, .fn (.func fn1050) [] []] h = some (.bool (l.any fun p => !(p.txt == [])), h) := by
  rw [e1049]
  simp only [F1049, bs, s1006 l d (.fn (.func fn1050) [] []) (fun p => !(p.txt == [])) h hd hl (fun x => by rw [callV_some]; exact s1050 x h), dBin_geq, mkRes_one]
  rw [idx_any]
def evE (e : Ev) : Int :=
  if (!plB e || !(decide (0 ≤ e.a5) && decide (e.a5 ≤ 253402300799999))) = true then 2
  else if e.a6 < 1 ∨ Int.tmod 5040 e.a6 ≠ 0 then 21
  else if linesE e 2000 ≠ 0 then linesE e 2000
  else if 32 < e.s7.length ∨ 32 < e.s8.length then 3
  else if (sortF e.fs).1 ≠ 0 then (sortF e.fs).1
  else if (sortF e.fs).2 ≠ e.fs then 19
  else if ((sortF e.fs).2.any fun p => decide (2000 < p.2.length)) = true then 3 else 0
theorem sortF_len (l : List (Str × Str)) : (sortF l).2.length ≤ l.length := by
  unfold sortF
  split
  · simp [-bind_some]
  · split
    · split
      · simp [-bind_some]
      · simp [-bind_some, srt_len]
    · simp [-bind_some]
theorem sortF_32 (l : List (Str × Str)) : (sortF l).2.length ≤ 32 := by
  by_cases h : 32 < l.length
  · simp [-bind_some, sortF, h]
  · have := sortF_len l
    omega
theorem s1043g (e : Ev) (h : Hp) (hsrt : ∀ p : Hp, ∃ d' h', R fn1052 [e.fd] p = some (.tup [d', .int .i64 (sortF e.fs).1], h') ∧ p.length ≤ h'.length ∧ (∀ q, q < p.length → h'[q]? = p[q]?) ∧ ((sortF e.fs).1 = 0 → RdF h' (sortF e.fs).2 d')) : R fn1043 [.agg (evr e)] h = some (.int .i64 (evE e), h) := by
  suffices Wp (R fn1043 [.agg (evr e)] h) (fun p => p = (.int .i64 (evE e), h)) by
    obtain ⟨p, h1, rfl⟩ := this
    exact h1
  have sc : ∀ (g : Hp) (v : Int), h.length ≤ g.length → (∀ q, q < h.length → g[q]? = h[q]?) → scope h g (.int .i64 v) = some (.int .i64 v, h) := fun g v h1 h2 => scope_eq (by simp) (.int _ _) h1 h2
  have k1 := s1051 e.a5 0 253402300799999 h
  rw [e1043]
  simp only [F1043, pBoxF_agg, bs, Option.bind_assoc, evL, s1047, mkRes_one]
  have q5 : dFieldAddr tab ty31 5 (.fptr (evr e)) = some (.fptr [.int .i64 e.a5, .int .i64 e.a6, .str e.s7, .str e.s8, e.fd]) := id rfl
  have q6 : dFieldAddr tab ty31 6 (.fptr (evr e)) = some (.fptr [.int .i64 e.a6, .str e.s7, .str e.s8, e.fd]) := id rfl
  have q7 : dFieldAddr tab ty31 7 (.fptr (evr e)) = some (.fptr [.str e.s7, .str e.s8, e.fd]) := id rfl
  have q8 : dFieldAddr tab ty31 8 (.fptr (evr e)) = some (.fptr [.str e.s8, e.fd]) := id rfl
  have q9 : dFieldAddr tab ty31 9 (.fptr (evr e)) = some (.fptr [e.fd]) := id rfl
  unfold evE
  generalize hb1 : plB e = b1
  generalize hb2 : (decide (0 ≤ e.a5) && decide (e.a5 ≤ 253402300799999)) = b2 at k1 ⊢
  have first : ∀ {β : Type} (f : D → D × Hp → D → Option β) (Q : β → Prop), (∀ x p t, p.2 = h → t = .bool (!b1 || !b2) → Wp (f x p t) Q) → Wp ((dUn .not (.bool b1)).bind fun t9 => (gd t9 false (some (.fptr [.int .i64 e.a5, .int .i64 e.a6, .str e.s7, .str e.s8, e.fd]))).bind fun t11 => (gd t9 false (dLoad tab h ty3 t11)).bind fun t12 => (gdW t9 false h (R fn1051 [t12, .int .i64 0, .int .i64 253402300799999] h)).bind fun p13 => (gd t9 false (dUn .not p13.1)).bind fun t14 => (dPick t9 (.bool true) t14).bind fun t15 => f t9 p13 t15) Q := fun f Q hk => by
    cases b1
    · simp only [dUn_not, Bool.not_false, bs, gd_bool, gdW_bool, reduceCtorEq, if_false, dPick_bool, if_true]
      exact hk _ _ _ rfl rfl
    · simp only [dUn_not, Bool.not_true, bs, gd_bool, gdW_bool, if_true, ld3, k1, dPick_bool, Bool.false_eq_true, if_false]
      exact hk _ _ _ rfl (by simp)
  simp only [q5, q6, q7, q8, q9]
  refine first _ _ fun x p t hp ht => ?_
  subst ht
  obtain ⟨px, p⟩ := p
  simp only at hp
  subst hp
  clear first
  simp only [dIf_bool]
  by_cases c1 : (!b1 || !b2) = true
  · simp only [c1, if_true, sc _ _ (Nat.le_refl _) (fun _ _ => rfl)]
    exact .some rfl
  simp only [c1, if_false, Bool.false_eq_true, ld3, ld9, ld29, bs, dBin_lss, len9, dBin_gtr, dBin_rem, dBin_neq]
  by_cases c2 : e.a6 < 1
  · simp only [c2, true_or, decide_true, if_true, gd_bool, reduceCtorEq, if_false, Bool.true_eq_false, bs, dPick_bool, dIf_bool, sc _ _ (Nat.le_refl _) (fun _ _ => rfl)]
    exact .some rfl
  have c20 : ¬ e.a6 = 0 := by omega
  by_cases c3n : ¬ Int.tmod 5040 e.a6 = 0
  · have c3 := c3n
    simp only [c2, c20, c3, ne_eq, not_false_eq_true, or_true, decide_true, decide_false, if_true, gd_bool, if_false, Bool.false_eq_true, bs, dPick_bool, dIf_bool, ld3, dBin_rem, dBin_neq, sc _ _ (Nat.le_refl _) (fun _ _ => rfl)]
    exact .some rfl
  have c3 : Int.tmod 5040 e.a6 = 0 := Decidable.not_not.1 c3n
  simp only [c2, c20, c3, ne_eq, not_true, or_self, decide_false, if_true, gd_bool, if_false, Bool.false_eq_true, bs, dPick_bool, dIf_bool, ld3, dBin_rem, dBin_neq, s1048]
  generalize hL : linesE e 2000 = L
  by_cases c4n : ¬ L = 0
  · have c4 := c4n
    simp only [c4, ne_eq, not_false_eq_true, decide_true, if_true, sc _ _ (Nat.le_refl _) (fun _ _ => rfl)]
    exact .some rfl
  have c4 : L = 0 := Decidable.not_not.1 c4n
  subst c4
  simp only [ne_eq, not_true, decide_false, Bool.false_eq_true, if_false, if_true]
  by_cases c5 : 32 < e.s7.length
  · have c5' : (32 : Int) < (e.s7.length : Int) := by omega
    simp only [c5, c5', true_or, decide_true, if_true, gd_bool, reduceCtorEq, if_false, Bool.true_eq_false, bs, dPick_bool, dIf_bool, sc _ _ (Nat.le_refl _) (fun _ _ => rfl)]
    exact .some rfl
  have c5' : ¬ (32 : Int) < (e.s7.length : Int) := by omega
  by_cases c6 : 32 < e.s8.length
  · have c6' : (32 : Int) < (e.s8.length : Int) := by omega
    simp only [c5, c5', c6, c6', or_true, decide_true, decide_false, if_true, gd_bool, if_false, Bool.false_eq_true, bs, ld9, len9, dBin_gtr, dPick_bool, sc _ _ (Nat.le_refl _) (fun _ _ => rfl)]
    exact .some rfl
  have c6' : ¬ (32 : Int) < (e.s8.length : Int) := by omega
  obtain ⟨d', h', hs, hl', hb', hr'⟩ := hsrt p
  simp only [c5, c5', c6, c6', or_self, decide_false, if_true, gd_bool, if_false, Bool.false_eq_true, bs, ld9, len9, dBin_gtr, dPick_bool, dIf_bool, hs, dExtract_tup, List.getElem?_cons_zero, List.getElem?_cons_succ]
  have hsl := sortF_32 e.fs
  generalize hS : sortF e.fs = S at hs hr' hsl
  obtain ⟨v, s⟩ := S
  simp only at hr' hsl ⊢
  by_cases c7n : ¬ v = 0
  · have c7 := c7n
    simp only [c7, ne_eq, not_false_eq_true, decide_true, if_true, sc _ _ hl' hb', dIf_bool, dBin_neq, bs]
    exact .some rfl
  have c7 : v = 0 := Decidable.not_not.1 c7n
  subst c7
  have hr := hr' rfl
  have hfd : RdF h' e.fs e.fd := .inl e.hfd
  simp only [ne_eq, not_true, decide_false, Bool.false_eq_true, if_false, dIf_bool, dBin_neq, s1053 s e.fs d' e.fd h' hr hfd (by omega), bs, dUn_not, s1054 s d' h' hr (by omega)]
  by_cases c8n : ¬ s = e.fs
  · have c8 := c8n
    simp only [c8, not_false_eq_true, decide_false, Bool.not_false, if_true, sc _ _ hl' hb', dIf_bool, dBin_neq, bs]
    exact .some rfl
  have c8 : s = e.fs := Decidable.not_not.1 c8n
  subst c8
  simp only [not_true, decide_true, Bool.not_true, if_false, Bool.false_eq_true, sc _ _ hl' hb', dIf_bool, dBin_neq, bs]
  split
  · exact .some rfl
  · exact .some rfl
theorem s1043 (e : Ev) (h : Hp) (hf : e.fs.length ≤ 20) : R fn1043 [.agg (evr e)] h = some (.int .i64 (evE e), h) := s1043g e h fun p => s1052 e.fs e.fd p e.hfd hf
def itE (i : It) : Int :=
  if i.r = [] then evE i.e
  else if 32 < i.r.length then 3
  else if plB i.e = false then 2
  else if linesE i.e 60000 = 9 ∨ linesE i.e 60000 = 4 ∨ linesE i.e 60000 = 19 then linesE i.e 60000
  else if i.e.a5 ≠ 0 ∨ i.e.a6 ≠ 0 ∨ i.e.s7 ≠ [] ∨ i.e.s8 ≠ [] ∨ i.e.fs.length ≠ 0 ∨ (i.e.ls.any fun p => !(p.txt == [])) = true then 19 else 0
theorem s1042g (i : It) (h : Hp) (hc : R fn1043 [.agg (evr i.e)] h = some (.int .i64 (evE i.e), h)) : R fn1042 [.agg (itr i)] h = some (.int .i64 (itE i), h) := by
  have hbx : boxN 10 (.agg (evr i.e)) = some (.fptr (evr i.e)) := boxN_agg 10 _ rfl
  have q4 : dFieldAddr tab ty31 4 (.fptr (evr i.e)) = some (.fptr [i.e.ld, .int .i64 i.e.a5, .int .i64 i.e.a6, .str i.e.s7, .str i.e.s8, i.e.fd]) := id rfl
  have q5 : dFieldAddr tab ty31 5 (.fptr (evr i.e)) = some (.fptr [.int .i64 i.e.a5, .int .i64 i.e.a6, .str i.e.s7, .str i.e.s8, i.e.fd]) := id rfl
  have q6 : dFieldAddr tab ty31 6 (.fptr (evr i.e)) = some (.fptr [.int .i64 i.e.a6, .str i.e.s7, .str i.e.s8, i.e.fd]) := id rfl
  have q7 : dFieldAddr tab ty31 7 (.fptr (evr i.e)) = some (.fptr [.str i.e.s7, .str i.e.s8, i.e.fd]) := id rfl
  have q8 : dFieldAddr tab ty31 8 (.fptr (evr i.e)) = some (.fptr [.str i.e.s8, i.e.fd]) := id rfl
  have q9 : dFieldAddr tab ty31 9 (.fptr (evr i.e)) = some (.fptr [i.e.fd]) := id rfl
  rw [e1042]
  simp only [F1042, pBoxF_agg, bs, itF0, itF1, itL0, evL, hbx, dBin_seql, mkRes_one]
  unfold itE
  by_cases c0 : i.r = []
  · simp only [c0, beq_self_eq_true, dIf_bool, if_true, hc, bs]
  have c0' : (i.r == []) = false := by simpa using c0
  simp only [c0, c0', dIf_bool, Bool.false_eq_true, if_false, len9, bs, dBin_gtr]
  by_cases c1 : 32 < i.r.length
  · have c1' : (32 : Int) < (i.r.length : Int) := by omega
    simp only [c1, c1', decide_true, if_true]
  have c1' : ¬ (32 : Int) < (i.r.length : Int) := by omega
  simp only [c1, c1', decide_false, Bool.false_eq_true, if_false, s1047, bs, dUn_not]
  cases hb : plB i.e
  · simp only [Bool.not_false, dIf_bool, if_true]
  simp only [Bool.not_true, dIf_bool, Bool.false_eq_true, Bool.true_eq_false, if_false, s1048, bs, dBin_eql]
  generalize linesE i.e 60000 = L
  by_cases c2 : L = 9
  · subst c2
    simp [-bind_some]
  by_cases c3 : L = 4
  · subst c3
    simp [-bind_some]
  by_cases c4 : L = 19
  · subst c4
    simp [-bind_some]
  simp only [c2, c3, c4, or_self, decide_false, gd_bool, if_true, bs, dPick_bool, dIf_bool, Bool.false_eq_true, if_false, q5, q6, q7, q8, q9, q4, ld3, ld9, ld29, ld28, dBin_neq]
  have hfl : (i.e.fs.length : Int) = 0 ↔ i.e.fs.length = 0 := by omega
  have h49 := s1049 i.e.ls i.e.ld h i.e.hld i.e.hll
  generalize (i.e.ls.any fun p => !(p.txt == [])) = bb at h49 ⊢
  by_cases d1n : ¬ i.e.a5 = 0
  · simp only [c2, c3, c4, dBin_eql, d1n, ne_eq, not_true, not_false_eq_true, true_or, or_true, false_or, or_false, decide_true, decide_false, gd_bool, gdW_bool, gd_und, gdW_und, reduceCtorEq, if_true, if_false, Bool.false_eq_true, Bool.true_eq_false, bs, dPick_bool, dIf_bool, ld3, ld9, ld29, ld28, dBin_neq, dBin_sneq, lens29 i.e.hfd, hfl, h49, beq_self_eq_true, Bool.not_true, Bool.not_false, or_self]
  have d1 : i.e.a5 = 0 := Decidable.not_not.1 d1n
  by_cases d2n : ¬ i.e.a6 = 0
  · simp only [c2, c3, c4, dBin_eql, d1, d2n, ne_eq, not_true, not_false_eq_true, true_or, or_true, false_or, or_false, decide_true, decide_false, gd_bool, gdW_bool, gd_und, gdW_und, reduceCtorEq, if_true, if_false, Bool.false_eq_true, Bool.true_eq_false, bs, dPick_bool, dIf_bool, ld3, ld9, ld29, ld28, dBin_neq, dBin_sneq, lens29 i.e.hfd, hfl, h49, beq_self_eq_true, Bool.not_true, Bool.not_false, or_self]
  have d2 : i.e.a6 = 0 := Decidable.not_not.1 d2n
  by_cases d3n : ¬ i.e.s7 = []
  · have d3b : (i.e.s7 == []) = false := by simpa using d3n
    simp only [c2, c3, c4, dBin_eql, d1, d2, d3n, d3b, ne_eq, not_true, not_false_eq_true, true_or, or_true, false_or, or_false, decide_true, decide_false, gd_bool, gdW_bool, gd_und, gdW_und, reduceCtorEq, if_true, if_false, Bool.false_eq_true, Bool.true_eq_false, bs, dPick_bool, dIf_bool, ld3, ld9, ld29, ld28, dBin_neq, dBin_sneq, lens29 i.e.hfd, hfl, h49, beq_self_eq_true, Bool.not_true, Bool.not_false, or_self]
  have d3 : i.e.s7 = [] := Decidable.not_not.1 d3n
  by_cases d4n : ¬ i.e.s8 = []
  · have d4b : (i.e.s8 == []) = false := by simpa using d4n
    simp only [c2, c3, c4, dBin_eql, d1, d2, d3, d4n, d4b, ne_eq, not_true, not_false_eq_true, true_or, or_true, false_or, or_false, decide_true, decide_false, gd_bool, gdW_bool, gd_und, gdW_und, reduceCtorEq, if_true, if_false, Bool.false_eq_true, Bool.true_eq_false, bs, dPick_bool, dIf_bool, ld3, ld9, ld29, ld28, dBin_neq, dBin_sneq, lens29 i.e.hfd, hfl, h49, beq_self_eq_true, Bool.not_true, Bool.not_false, or_self]
  have d4 : i.e.s8 = [] := Decidable.not_not.1 d4n
  by_cases d5n : ¬ i.e.fs.length = 0
  · simp only [c2, c3, c4, dBin_eql, d1, d2, d3, d4, d5n, ne_eq, not_true, not_false_eq_true, true_or, or_true, false_or, or_false, decide_true, decide_false, gd_bool, gdW_bool, gd_und, gdW_und, reduceCtorEq, if_true, if_false, Bool.false_eq_true, Bool.true_eq_false, bs, dPick_bool, dIf_bool, ld3, ld9, ld29, ld28, dBin_neq, dBin_sneq, lens29 i.e.hfd, hfl, h49, beq_self_eq_true, Bool.not_true, Bool.not_false, or_self]
  have d5 : i.e.fs.length = 0 := Decidable.not_not.1 d5n
  simp only [c2, c3, c4, dBin_eql, d1, d2, d3, d4, d5, ne_eq, not_true, not_false_eq_true, true_or, or_true, false_or, or_false, decide_true, decide_false, gd_bool, gdW_bool, gd_und, gdW_und, reduceCtorEq, if_true, if_false, Bool.false_eq_true, Bool.true_eq_false, bs, dPick_bool, dIf_bool, ld3, ld9, ld29, ld28, dBin_neq, dBin_sneq, lens29 i.e.hfd, hfl, h49, beq_self_eq_true, Bool.not_true, Bool.not_false, or_self]
  cases bb <;> simp [-bind_some, h49]
theorem s1042 (i : It) (h : Hp) (hf : i.e.fs.length ≤ 20) : R fn1042 [.agg (itr i)] h = some (.int .i64 (itE i), h) := s1042g i h (s1043 i.e h hf)
theorem cmpB_neg : ∀ (a b : Str), Lib.compareBytes a b = - Lib.compareBytes b a
  | [], [] => rfl
  | [], _ :: _ => rfl
  | _ :: _, [] => rfl
  | x :: a, y :: b => by
    have ih := cmpB_neg a b
    simp only [Lib.compareBytes]
    by_cases h1 : x < y
    · have h2 : ¬ y < x := by
        have := UInt8.lt_iff_toNat_lt.1 h1
        intro hh
        have := UInt8.lt_iff_toNat_lt.1 hh
        omega
      simp [-bind_some, h1, h2]
    · by_cases h2 : y < x
      · simp [-bind_some, h1, h2]
      · simp [-bind_some, h1, h2, ih]
theorem asc_srt {l : List (Str × Str)} (h : Asc l) : srt l = l := by
  have hd : ∀ j, dn cF 0 j l = l := fun j => by
    cases j with
    | zero => rfl
    | succ j =>
      unfold dn
      split
      · rename_i x y hx hy
        split
        · rename_i hc
          exfalso
          have h1 := (h j y x hy hx).1
          have h2 := (cmpB_lt y.1 x.1).2 h1
          have h3 := cmpB_neg x.1 y.1
          have h4 := hc.2
          unfold cF at h4
          omega
        · rfl
      · rfl
  have hi : ∀ n i, isr cF 0 i n l = l := fun n => by
    induction n with
    | zero => intro i; rfl
    | succ n ih => intro i; unfold isr; rw [hd]; exact ih _
  exact hi _ _
theorem asc_adj : ∀ {l : List (Str × Str)}, Asc l → adjB l = false
  | [], _ => rfl
  | [_], _ => rfl
  | x :: y :: r, h => by
    unfold adjB
    have h0 := (h 0 x y rfl rfl).2
    have h1 : (y.1 == x.1) = false := by simp; exact fun hh => h0 hh.symm
    rw [h1, Bool.false_or]
    exact asc_adj fun i p q hp hq => h (i + 1) p q hp hq
theorem asc_sort {l : List (Str × Str)} (h : Asc l) (hl : l.length ≤ 32) (hn : ∀ p ∈ l, fnameOK p.1 = true) : sortF l = (0, l) := by
  have h32 : ¬ 32 < l.length := by omega
  have ha : l.all (fun p => fnameOK p.1) = true := List.all_eq_true.2 hn
  simp only [sortF, h32, if_false, ha, if_true, asc_srt h, asc_adj h, Bool.false_eq_true]
structure Tal where
  h : Int
  r : Str
  n : Int
theorem bL_irr : ∀ a : Str, Op.bytesLess a a = false
  | [] => rfl
  | x :: a => by simp [-bind_some, Op.bytesLess, bL_irr a]
theorem bL_tr : ∀ {a b c : Str}, Op.bytesLess a b = true → Op.bytesLess b c = true → Op.bytesLess a c = true
  | _, [], _, h, _ => by cases ‹Str› <;> simp [-bind_some, Op.bytesLess] at h
  | _, _ :: _, [], _, h => by simp [-bind_some, Op.bytesLess] at h
  | [], _ :: _, _ :: _, _, _ => rfl
  | x :: a, y :: b, z :: c, h, k => by
    simp only [Op.bytesLess, Bool.or_eq_true, decide_eq_true_eq, Bool.and_eq_true, beq_iff_eq] at h k ⊢
    rcases h with h | ⟨rfl, h⟩
    · rcases k with k | ⟨rfl, k⟩
      · exact .inl (UInt8.lt_trans h k)
      · exact .inl h
    · rcases k with k | ⟨rfl, k⟩
      · exact .inl k
      · exact .inr ⟨rfl, bL_tr h k⟩
theorem bL_tot : ∀ {a b : Str}, Op.bytesLess a b = false → a ≠ b → Op.bytesLess b a = true
  | [], [], _, h => absurd rfl h
  | [], _ :: _, h, _ => by simp [-bind_some, Op.bytesLess] at h
  | _ :: _, [], _, _ => rfl
  | x :: a, y :: b, h, k => by
    simp only [Op.bytesLess, Bool.or_eq_false_iff, decide_eq_false_iff_not, Bool.and_eq_false_iff, beq_eq_false_iff_ne] at h
    simp only [Op.bytesLess, Bool.or_eq_true, decide_eq_true_eq, Bool.and_eq_true, beq_iff_eq]
    by_cases hxy : x = y
    · subst hxy
      refine .inr ⟨rfl, bL_tot (h.2.resolve_left fun hh => hh rfl) fun hh => k (by rw [hh])⟩
    · left
      have h1 := mt UInt8.lt_iff_toNat_lt.2 h.1
      have h2 : x.toNat ≠ y.toNat := fun hh => hxy (UInt8.toNat_inj.1 hh)
      exact UInt8.lt_iff_toNat_lt.2 (by omega)
def gr : List Ev → List Ev → Bool
  | [], _ => true
  | _ :: _, [] => false
  | x :: a, y :: b => if sameE x y = true then gr a b else gr (x :: a) b
def sm (f : Tal → Int) : List Tal → Int
  | [] => 0
  | t :: r => f t + sm f r
theorem it_good {hst fil fr : Int} {i : It} (hi : ItOK hst fil fr i) (h0 : 0 ≤ hst) (h9 : hst ≤ 999) (f0 : 0 ≤ fil) (f9 : fil ≤ 1000) (r0 : 0 ≤ fr) (r9 : fr ≤ 50000) : (i.r = [] ∧ EvGood i.e) ∨ SkGood i := by
  have c1 := chain_le _ _ _ hi.ch
  have hn3 := hi.n3
  have hn1 := hi.n1
  have pl : PlOK i.e := ⟨by rw [hi.host]; exact h0, by rw [hi.host]; exact h9, by rw [hi.file]; exact f0, by rw [hi.file]; omega, by rw [hi.fr]; omega, by rw [hi.fr]; omega, by omega⟩
  have ch : chain i.e.a2 i.e.ls i.e.a3 := by rw [hi.fr]; exact hi.ch
  by_cases hr : i.r = []
  · left
    obtain ⟨e1, e2, e3, e4, e5, e6, e7, e8⟩ := hi.ev hr
    have hfl : i.e.fs.length ≤ 4 := by
      have := e7.1.length_le
      simpa using this
    exact ⟨hr, pl, e1, e2, e3, e4, hi.wt hr, hn1, by omega, ch, (show ∀ s ∈ lt98_5, s.length ≤ 32 by decide) _ e5, (show ∀ s ∈ lt98_6, s.length ≤ 32 by decide) _ e6, by omega, fn_of e7.1, asc_of e7.1, fun p hp => by have := e7.2 p hp; omega⟩
  · right
    obtain ⟨e1, e2, e3, e4, e5, e6, e7⟩ := hi.sk hr
    exact ⟨hr, (show ∀ s ∈ lt98_4, s.length ≤ 32 by decide) _ e1, pl, hn1, by omega, ch, e2, e3, e4, e5, e6, e7⟩
structure BIt (hst : Int) (i : It) : Prop where
  host : i.e.a0 = hst
  f5 : 5 ≤ i.e.a1
  f7 : i.e.a1 ≤ 7
  r0 : 0 ≤ i.e.a2
  r9 : i.e.a2 ≤ 50000
  ch : chain i.e.a2 i.e.ls i.e.a3
  n1 : 1 ≤ i.e.ls.length
  n6 : i.e.ls.length ≤ 6
  rule : i.r = [] ∨ i.r ∈ lt98_4
  fs : i.e.fs.length ≤ 4
  good : (i.r = [] ∧ EvGood i.e) ∨ SkGood i
theorem bit_of {hst fil fr : Int} {i : It} (hi : ItOK hst fil fr i) (h0 : 0 ≤ hst) (h9 : hst ≤ 999) (f5 : 5 ≤ fil) (f7 : fil ≤ 7) (r0 : 0 ≤ fr) (r9 : fr ≤ 50000) : BIt hst i := by
  have hn3 := hi.n3
  refine ⟨hi.host, by rw [hi.file]; exact f5, by rw [hi.file]; exact f7, by rw [hi.fr]; exact r0, by rw [hi.fr]; exact r9, by rw [hi.fr]; exact hi.ch, hi.n1, by omega, ?_, ?_, it_good hi h0 h9 (by omega) (by omega) r0 r9⟩
  · by_cases hr : i.r = []
    · exact .inl hr
    · exact .inr (hi.sk hr).1
  · by_cases hr : i.r = []
    · have := (hi.ev hr).2.2.2.2.2.2.1.1.length_le
      simpa using this
    · rw [(hi.sk hr).2.2.2.2.2.1]; simp [-bind_some]
structure TogOf (a b j : It) : Prop where
  r : j.r = b.r
  a0 : j.e.a0 = b.e.a0
  a1 : j.e.a1 = b.e.a1
  a2 : j.e.a2 = a.e.a2
  a3 : j.e.a3 = b.e.a3
  a5 : j.e.a5 = b.e.a5
  a6 : j.e.a6 = b.e.a6
  s7 : j.e.s7 = b.e.s7
  s8 : j.e.s8 = b.e.s8
  ls : j.e.ls = if b.r = [] then a.e.ls ++ b.e.ls else (a.e.ls ++ b.e.ls).map blank
  fs : j.e.fs = b.e.fs
theorem chain_app : ∀ (ls rs : List Lin) (a b c : Int), chain a ls b → chain b rs c → chain a (ls ++ rs) c
  | [], rs, a, b, c, h, k => by simp only [chain] at h; subst h; exact k
  | x :: ls, rs, a, b, c, h, k => ⟨h.1, h.2.1, h.2.2.1, h.2.2.2.1, chain_app ls rs _ b c h.2.2.2.2 k⟩
theorem bit_tog {hst fil fr fb : Int} {a b j : It} (ha : ItOK hst fil fr a) (hb : ItOK hst fil fb b) (hab : a.e.a3 = fb) (h0 : 0 ≤ hst) (h9 : hst ≤ 999) (f5 : 5 ≤ fil) (f7 : fil ≤ 7) (r0 : 0 ≤ fr) (r9 : fr ≤ 40000) (hj : TogOf a b j) : BIt hst j := by
  have na1 := ha.n1
  have na3 := ha.n3
  have nb1 := hb.n1
  have nb3 := hb.n3
  have ca := chain_le _ _ _ ha.ch
  have cb := chain_le _ _ _ hb.ch
  have hll : j.e.ls.length = a.e.ls.length + b.e.ls.length := by
    rw [hj.ls]; split <;> simp [-bind_some]
  have ch0 : chain a.e.a2 (a.e.ls ++ b.e.ls) b.e.a3 := by
    rw [ha.fr]
    exact chain_app _ _ _ _ _ ha.ch (by rw [hab]; exact hb.ch)
  have ch : chain j.e.a2 j.e.ls j.e.a3 := by
    rw [hj.a2, hj.a3, hj.ls]
    split
    · exact ch0
    · exact chain_blank _ _ _ ch0
  have pl : PlOK j.e := ⟨by rw [hj.a0, hb.host]; exact h0, by rw [hj.a0, hb.host]; exact h9, by rw [hj.a1, hb.file]; omega, by rw [hj.a1, hb.file]; omega, by rw [hj.a2, ha.fr]; omega, by rw [hj.a2, hj.a3, ha.fr]; omega, by rw [hj.a3]; omega⟩
  have hbb := bit_of hb h0 h9 f5 f7 (by omega) (by omega)
  refine ⟨by rw [hj.a0, hb.host], by rw [hj.a1, hb.file]; exact f5, by rw [hj.a1, hb.file]; exact f7, by rw [hj.a2, ha.fr]; exact r0, by rw [hj.a2, ha.fr]; omega, ch, by omega, by omega, by rw [hj.r]; exact hbb.rule, by rw [hj.fs]; exact hbb.fs, ?_⟩
  by_cases hr : b.r = []
  · left
    obtain ⟨e1, e2, e3, e4, e5, e6, e7, e8⟩ := hb.ev hr
    have hfl := hbb.fs
    exact ⟨by rw [hj.r, hr], pl, by rw [hj.a5]; exact e1, by rw [hj.a5]; exact e2, by rw [hj.a6]; exact e3, by rw [hj.a6]; exact e4, by rw [hj.a6]; exact hb.wt hr, by omega, by omega, ch, by rw [hj.s7]; exact (show ∀ s ∈ lt98_5, s.length ≤ 32 by decide) _ e5, by rw [hj.s8]; exact (show ∀ s ∈ lt98_6, s.length ≤ 32 by decide) _ e6, by rw [hj.fs]; omega, by rw [hj.fs]; exact fn_of e7.1, by rw [hj.fs]; exact asc_of e7.1, by rw [hj.fs]; exact fun p hp => by have := e7.2 p hp; omega⟩
  · right
    obtain ⟨e1, e2, e3, e4, e5, e6, e7⟩ := hb.sk hr
    exact ⟨by rw [hj.r]; exact hr, by rw [hj.r]; exact (show ∀ s ∈ lt98_4, s.length ≤ 32 by decide) _ e1, pl, by omega, by omega, ch, by rw [hj.a5]; exact e2, by rw [hj.a6]; exact e3, by rw [hj.s7]; exact e4, by rw [hj.s8]; exact e5, by rw [hj.fs]; exact e6, by
      rw [hj.ls, if_neg hr]
      intro l hl
      obtain ⟨x, _, rfl⟩ := List.mem_map.1 hl
      rfl⟩
theorem items_get (hst fil : Int) : ∀ (l : List It) (a b : Int), items hst fil a l b → ∀ (k : Nat) (i : It), l[k]? = some i → ∃ f, ItOK hst fil f i ∧ a ≤ f ∧ f ≤ a + 108 * k ∧ ∀ j, l[k + 1]? = some j → ItOK hst fil i.e.a3 j
  | [], _, _, _, k, i, hi => by simp at hi
  | x :: r, a, b, h, 0, i, hi => by
    simp at hi
    subst hi
    refine ⟨a, h.1, by omega, by omega, fun j hj => ?_⟩
    cases r with
    | nil => simp at hj
    | cons y r => simp at hj; subst hj; exact h.2.1
  | x :: r, a, b, h, k + 1, i, hi => by
    obtain ⟨f, h1, h2, h3, h4⟩ := items_get hst fil r _ b h.2 k i (by simpa using hi)
    have c := chain_le _ _ _ h.1.ch
    have := h.1.n3
    exact ⟨f, h1, by omega, by push_cast; omega, fun j hj => h4 j (by simpa using hj)⟩
def togR (b : Bool) (l : List Lin) (k : Nat) : List Lin := if b = true then (l.take k).map blank ++ l.drop k else l
theorem togR_len (b : Bool) (l : List Lin) (k : Nat) (hk : k ≤ l.length) : (togR b l k).length = l.length := by
  unfold togR
  split
  · simp [-bind_some]; omega
  · rfl
theorem s1093 (a b : It) (h : Hp) (hla : a.e.ls.length ≤ 1000) (hlb : b.e.ls.length ≤ 1000) (hn : 1 ≤ a.e.ls.length) : ∃ j, R fn1093 [.agg (itr a), .agg (itr b)] h = some (.agg (itr j), h) ∧ TogOf a b j := by
  suffices Wp (R fn1093 [.agg (itr a), .agg (itr b)] h) (fun p => p.2 = h ∧ ∃ j, p.1 = .agg (itr j) ∧ TogOf a b j) by
    obtain ⟨⟨x, h'⟩, h1, rfl, j, rfl, h2⟩ := this
    exact ⟨j, h1, h2⟩
  rw [e1093]
  have q4 : ∀ i : It, dFieldAddr tab ty31 4 (.fptr (evr i.e)) = some (.fptr [i.e.ld, .int .i64 i.e.a5, .int .i64 i.e.a6, .str i.e.s7, .str i.e.s8, i.e.fd]) := fun i => id rfl
  have q2 : ∀ i : It, dFieldAddr tab ty31 2 (.fptr (evr i.e)) = some (.fptr [.int .i64 i.e.a2, .int .i64 i.e.a3, i.e.ld, .int .i64 i.e.a5, .int .i64 i.e.a6, .str i.e.s7, .str i.e.s8, i.e.fd]) := fun i => id rfl
  generalize hZ : ([.str [], .int .i64 0, .int .i64 0, .int .i64 0, .int .i64 0, .nils, .int .i64 0, .int .i64 0, .str [], .str [], .nils] : List D) = Z
  have hZl : Z.length = 11 := by subst hZ; rfl
  simp only [F1093, bs, pBoxF_agg, ldIt, hZ, Option.bind_assoc, itF1, q2, q4, ld3, ld28]
  have hl0 : (dNew h ty74 11 [Z]).length = h.length + 1 := by simp [-bind_some, dNew]
  have p8 : (dNew (dNew h ty74 11 [Z]) ty74 11 [Z])[h.length]? = some (.row ty74 11 [Z]) := by
    rw [dNew_old _ _ _ _ (by omega)]; exact dNew_get _ _ _ _
  have p9 : (dNew (dNew h ty74 11 [Z]) ty74 11 [Z])[h.length + 1]? = some (.row ty74 11 [Z]) := by
    rw [← hl0]; exact dNew_get _ _ _ _
  have hb : ∀ q, q < h.length → (dNew (dNew h ty74 11 [Z]) ty74 11 [Z])[q]? = h[q]? := fun q hq => by
    rw [dNew_old _ _ _ _ (by omega), dNew_old _ _ _ _ hq]
  have hgl : (dNew (dNew h ty74 11 [Z]) ty74 11 [Z]).length = h.length + 2 := by simp [-bind_some, dNew]
  rw [hl0]
  generalize dNew (dNew h ty74 11 [Z]) ty74 11 [Z] = g0 at p8 p9 hb hgl
  refine wst74 p9 (by rfl) (by rfl) (by rw [hZl]; exact Nat.le_refl _) (by rfl) fun g1 k9 s1 => ?_
  replace k9 : g1[h.length + 1]? = some (.row ty74 11 [itr b]) := by
    rw [k9]; subst hZ; rfl
  simp only [fap74_1, fap31_2, fap31_4, Nat.zero_add, bs]
  refine wst3 k9 (by rfl) (by rfl) (by simp [-bind_some, itr, evr]) (by rfl) fun g2 k9 s2 => ?_
  try simp only [bs]
  refine wst28 k9 (by rfl) (by rfl) (by simp [-bind_some, itr, evr, spl, cells1]) (by rfl) fun g3 k9 s3 => ?_
  replace k9 : g3[h.length + 1]? = some (.row ty74 11 [[.str b.r, .int .i64 b.e.a0, .int .i64 b.e.a1, .int .i64 a.e.a2, .int .i64 b.e.a3, .nils, .int .i64 b.e.a5, .int .i64 b.e.a6, .str b.e.s7, .str b.e.s8, b.e.fd]]) := k9
  have s13q := (s1.trans s2).trans s3
  replace p8 := (s13q.2 h.length (by omega)).trans p8
  replace hb : ∀ q, q < h.length → g3[q]? = h[q]? := fun q hq => (s13q.2 q (by omega)).trans (hb q hq)
  have hgl3 : g3.length = h.length + 2 := by rw [s13q.1, hgl]
  clear s1 s2 s3 s13q p9 hgl
  try simp only [bs]
  refine wap28 (n0 := h.length + 2) (by omega) (Own.nils _ _ _ _) (slof_rows _ a.e.hld) (by simp; omega) fun x1 g4 ow1 len1 bel1 _ _ => ?_
  rw [List.nil_append] at ow1
  try simp only [bs]
  refine wap28 (n0 := h.length + 2) (by omega) ow1 (slof_rows _ b.e.hld) (by simp; omega) fun x2 g5 ow2 len2 bel2 _ _ => ?_
  rw [← List.map_append] at ow2
  have hbel : ∀ q, q < h.length + 2 → g5[q]? = g3[q]? := fun q hq => (bel2 q hq).trans (bel1 q hq)
  replace k9 := (hbel _ (by omega)).trans k9
  replace p8 := (hbel _ (by omega)).trans p8
  replace hb : ∀ q, q < h.length → g5[q]? = h[q]? := fun q hq => (hbel q (by omega)).trans (hb q hq)
  have hgl5 : h.length + 2 ≤ g5.length := by omega
  clear hbel bel1 bel2 ow1 len1 len2
  generalize hL : a.e.ls ++ b.e.ls = L at ow2
  have hLl : L.length = a.e.ls.length + b.e.ls.length := by rw [← hL]; simp [-bind_some]
  obtain ⟨ob, hob, rfl, hgo⟩ := own_ix ow2 (i := 0) (by simp; omega)
  simp only [List.length_map] at *
  refine Wp.chk trivial ?_
  try simp only [bs, Option.bind_assoc]
  generalize hB : (!(b.r == ([] : Str))) = B
  refine Wp.loop (fun n ds g => ∃ (k : Nat) (u v y : D), ds = [.int .i64 k, u, v] ∧ n + k = L.length ∧ h.length + 2 ≤ g.length ∧ (∀ q, q < h.length → g[q]? = h[q]?) ∧ g[h.length]? = some (.row ty74 11 [Z]) ∧
      g[h.length + 1]? = some (.row ty74 11 [[.str b.r, .int .i64 b.e.a0, .int .i64 b.e.a1, .int .i64 a.e.a2, .int .i64 b.e.a3, y, .int .i64 b.e.a5, .int .i64 b.e.a6, .str b.e.s7, .str b.e.s8, b.e.fd]]) ∧
      g[ob]? = some (.row ty78 3 ((togR B L k).map linr)) ∧ Own g (h.length + 2) ty78 3 (((togR B L k).take k).map linr) y ∧ ¬ y.inOb ob)
    (fun r => r.1 = .ext 0 ∧ ∃ y, h.length + 2 ≤ r.2.2.length ∧ (∀ q, q < h.length → r.2.2[q]? = h[q]?) ∧ r.2.2[h.length]? = some (.row ty74 11 [Z]) ∧
      r.2.2[h.length + 1]? = some (.row ty74 11 [[.str b.r, .int .i64 b.e.a0, .int .i64 b.e.a1, .int .i64 a.e.a2, .int .i64 b.e.a3, y, .int .i64 b.e.a5, .int .i64 b.e.a6, .str b.e.s7, .str b.e.s8, b.e.fd]]) ∧
      Own r.2.2 (h.length + 2) ty78 3 ((togR B L L.length).map linr) y) L.length
    ⟨0, _, _, .nils, rfl, rfl, hgl5, hb, p8, k9, by rw [hgo]; unfold togR; split <;> simp [-bind_some], by simpa using Own.nils _ _ _ _, by rintro ⟨_, _, hh⟩; cases hh⟩ ?_ ?_
  · rintro n ds g ⟨k, u, v, y, rfl, hk, hgl, hb, p8, k9, ho, ow, hny⟩
    have hlen : (togR B L k).length = L.length := togR_len _ _ _ (by omega)
    simp only [F1093_L0, nth_zero, nth_succ, bs, Option.bind_assoc, lenm28, dBin_lss, itF0, itL0, dBin_sneq, hB]
    refine Wp.dif ?_ ?_
    · intro h0
      have h0 : k < L.length := by have : (k : Int) < L.length := by simpa using h0
                                   omega
      have hkl : (0 : Int) ≤ (k : Int) ∧ (k : Int) < (L.length : Int) := by omega
      have hw : IntKind.wrap .i64 ((k : Int) + 1) = ((k + 1 : Nat) : Int) := by
        rw [wrap_i64 (by omega) (by omega)]; omega
      refine Wp.join (P := fun r => ∃ g', r = (.nrm, [], g') ∧ h.length + 2 ≤ g'.length ∧ (∀ q, q < h.length → g'[q]? = h[q]?) ∧ g'[h.length]? = some (.row ty74 11 [Z]) ∧
        g'[h.length + 1]? = some (.row ty74 11 [[.str b.r, .int .i64 b.e.a0, .int .i64 b.e.a1, .int .i64 a.e.a2, .int .i64 b.e.a3, y, .int .i64 b.e.a5, .int .i64 b.e.a6, .str b.e.s7, .str b.e.s8, b.e.fd]]) ∧
        g'[ob]? = some (.row ty78 3 ((togR B L (k + 1)).map linr)) ∧ Own g' (h.length + 2) ty78 3 (((togR B L k).take k).map linr) y) ?_ ?_ ?_
      · intro hbt
        subst hbt
        have hT : ∀ k, togR true L k = (L.take k).map blank ++ L.drop k := fun k => rfl
        simp only [ixm28, hkl, and_self, if_true, bs, fap78_2, Nat.zero_add, Int.toNat_natCast]
        refine wst9 ho (by rw [hT]; exact get_blank L k h0) (by rfl) (by simp [-bind_some, linr]) (by rfl) fun g' q s => ?_
        have hset : ((togR true L k).map linr).set k (spl (linr L[k]) 2 (cells1 (.str []))) = (togR true L (k + 1)).map linr := by
          rw [hT, hT]; exact set_blank L k h0
        rw [hset] at q
        exact .some ⟨g', rfl, by have := s.1; omega, fun q hq => (s.2 q (by omega)).trans (hb q hq), (s.2 _ (by omega)).trans p8, (s.2 _ (by omega)).trans k9, q, ow.keep fun q hq hin => s.2 q fun hh => hny (hh ▸ hin)⟩
      · intro hbf
        subst hbf
        exact .some ⟨g, rfl, hgl, hb, p8, k9, ho, ow⟩
      rintro _ ⟨g', rfl, hgl, hb, p8, k9, ho, ow⟩
      have hx : (togR B L (k + 1))[k]? = some ((togR B L (k + 1))[k]'(by rw [togR_len _ _ _ (by omega)]; omega)) := List.getElem?_eq_getElem _
      generalize (togR B L (k + 1))[k]'(by rw [togR_len _ _ _ (by omega)]; omega) = x at hx
      have hxr : ((togR B L (k + 1)).map linr)[k]? = some (linr x) := by rw [List.getElem?_map, hx]; rfl
      have hld : dLoad tab g' ty78 (.ptr ob k 0) = some (.agg (linr x)) := by
        rw [ldp78, row_of ho, hxr]; rfl
      have hbs : pLitF tab ty28 1 [0] [.agg (linr x)] = some (.sl 3 true [linr x]) := id rfl
      simp only [toEnd_nrm, fap74_1, fap31_4, Nat.zero_add, ldp28, row_of k9, List.getElem?_cons_zero, bs, List.drop_succ_cons, List.drop_zero, List.head?_cons, ixm28, hkl, and_self, if_true, Int.toNat_natCast, hld, hbs]
      have htl : ((togR B L k).take k).length ≤ 2000 := by simp; omega
      refine wap28 (n0 := h.length + 2) hgl ow (rowsOf_sl _ _ _ _) (by simp at htl ⊢; omega) fun y' g'' ow' len' bel' keep' fre' => ?_
      try simp only [bs]
      have oc := one_cells (own_one ow')
      refine wst28 ((bel' (h.length + 1) (by omega)).trans k9) (by rfl) (by rw [oc.1]; rfl) (by simp) oc.2 fun g3 q3 t3 => ?_
      rw [oc.1] at q3
      have holt := (List.getElem?_eq_some_iff.1 ho).1
      have ho2 : h.length + 2 ≤ ob := hob
      have htk : ((togR B L k).take k).map linr ++ [linr x] = ((togR B L (k + 1)).take (k + 1)).map linr := by
        have e1 : (togR B L k).take k = (togR B L (k + 1)).take k := by
          unfold togR
          split
          · rw [List.take_append_of_le_length (by simp; omega), List.take_append_of_le_length (by simp; omega), ← List.map_take, ← List.map_take, List.take_take, List.take_take]
            congr 2; omega
          · rfl
        rw [e1, List.take_add_one, hx]
        simp [-bind_some]
      rw [htk] at ow'
      simp only [bs, dBin_add, hw]
      refine .some (.inl ⟨rfl, n - 1, by omega, k + 1, _, _, y', rfl, by omega, by have := t3.1; show h.length + 2 ≤ g3.length; omega, fun q hq => (t3.2 q (by omega)).trans ((bel' q (by omega)).trans (hb q hq)), (t3.2 _ (by omega)).trans ((bel' _ (by omega)).trans p8), q3, (t3.2 _ (by omega)).trans ((keep' ob holt hny).trans ho), ow'.keep fun q hq _ => t3.2 q (by omega), fun hin => ?_⟩)
      rcases fre' ob hin with hh | hh
      · exact hny hh
      · omega
    · intro h0
      have h0 : k = L.length := by have : ¬ (k : Int) < L.length := by simpa using h0
                                   omega
      subst h0
      refine .some (.inr ⟨by simp, rfl, y, hgl, hb, p8, k9, ?_⟩)
      rw [List.take_of_length_le (by omega)] at ow
      exact ow
  · rintro ⟨ex, ds, g⟩ ⟨q1, y, hgl, hb, p8, k9, ow⟩
    simp only at q1 hgl hb p8 k9 ow
    subst q1
    simp only [unblk_self, toEnd_nrm, bs]
    have hlen : (togR B L L.length).length = L.length := togR_len _ _ _ (Nat.le_refl _)
    have hsl := own_sl (n0 := h.length) (n := 2) ow (by omega) (fun a _ => linr_frz _ g _ a)
    have hcs : ([.str b.r, .int .i64 b.e.a0, .int .i64 b.e.a1, .int .i64 a.e.a2, .int .i64 b.e.a3, y, .int .i64 b.e.a5, .int .i64 b.e.a6, .str b.e.s7, .str b.e.s8, b.e.fd] : List D).length = 11 := rfl
    simp only [ldob11 k9 hcs, bs]
    have hok : (D.agg [.str b.r, .int .i64 b.e.a0, .int .i64 b.e.a1, .int .i64 a.e.a2, .int .i64 b.e.a3, y, .int .i64 b.e.a5, .int .i64 b.e.a6, .str b.e.s7, .str b.e.s8, b.e.fd]).okv = true := by
      have h1 := own_one ow
      have h2 := slof_one b.e.hfd
      generalize b.e.fd = fd at h2
      cases y <;> first | (cases fd <;> first | rfl | (simp [-bind_some, D.one] at h2)) | (simp [-bind_some, D.one] at h1)
    refine wst74 p8 (by rfl) (by rfl) (by rw [hZl]; exact Nat.le_refl _) hok fun g2 q8 t2 => ?_
    replace q8 : g2[h.length]? = some (.row ty74 11 [[.str b.r, .int .i64 b.e.a0, .int .i64 b.e.a1, .int .i64 a.e.a2, .int .i64 b.e.a3, y, .int .i64 b.e.a5, .int .i64 b.e.a6, .str b.e.s7, .str b.e.s8, b.e.fd]]) := by
      rw [q8]; subst hZ; rfl
    simp only [ldob11 q8 hcs, bs, mkRes_one]
    have ow2 := ow.keep (h' := g2) fun q hq _ => t2.2 q (by omega)
    have hsl := own_sl (n0 := h.length) (n := 2) ow2 (by omega) (fun a _ => linr_frz _ g2 _ a)
    refine ⟨(.agg (itr ⟨b.r, ⟨b.e.a0, b.e.a1, a.e.a2, b.e.a3, togR B L L.length, frz h.length g2 3 y, b.e.a5, b.e.a6, b.e.s7, b.e.s8, b.e.fs, b.e.fd, b.e.hfd, b.e.hl, hsl, by omega⟩⟩), h), scope_eq ?_ (itr_ok _ _) (by have := t2.1; omega) (fun q hq => (t2.2 q (by omega)).trans (hb q hq)), rfl, _, rfl, ⟨rfl, rfl, rfl, rfl, rfl, rfl, rfl, rfl, rfl, ?_, rfl⟩⟩
    · have hf := slof_frz (n0 := h.length) (h := g2) (n := 2) b.e.hfd (fun a _ => fld_frz _ g2 _ a)
      simp only [frz_agg, List.map_cons, List.map_nil, frz_int, frz_str, hf]
      rfl
    · show togR B L L.length = _
      by_cases hr : b.r = []
      · rw [if_pos hr]
        have : B = false := by rw [← hB, hr]; rfl
        subst this
        exact hL.symm
      · rw [if_neg hr]
        have : B = true := by rw [← hB]; simp [-bind_some, hr]
        subst this
        rw [hL]
        simp [-bind_some, togR]
def bRow (host : Int) (p : List It × D × Int) : List D := [.int .i64 host, .int .i64 p.2.2, p.2.1]
def atR (n : Nat) : List D := [.int .i64 (n : Int)]
structure BtI (h : Hp) (o : Nat) (host : Int) (ps : List (List It × D)) (qa : Nat) (g : Hp) (x : D) (bt : List (List It × D × Int)) (ats : List Nat) : Prop where
  len : h.length ≤ g.length
  gr : ∀ q, q < h.length → q ≠ o → g[q]? = h[q]?
  cd : CD g o
  qa0 : h.length ≤ qa
  at_ : g[qa]? = some (.row ty3 1 (ats.map atR))
  al : ats.length = ps.length
  ab : ∀ (f : Nat) (n : Nat) p, ats[f]? = some n → ps[f]? = some p → n ≤ p.1.length
  out : Own g h.length ty1064 3 (bt.map (bRow host)) x
  its : ∀ p ∈ bt, Own g h.length ty74 11 (p.1.map itr) p.2.1 ∧ p.1.length ≤ 3 ∧ (∀ i ∈ p.1, BIt host i) ∧ 0 ≤ p.2.2 ∧ p.2.2 ≤ 12
structure BtL (h : Hp) (o : Nat) (qa pb : Nat) (x : D) (bt : List (List It × D × Int)) : Prop where
  hh : h.length ≤ pb
  ho : o < h.length
  hqa : qa < pb
  hx : ∀ q, x.inOb q → q < pb
  hbs : ∀ p ∈ bt, ∀ q, p.2.1.inOb q → q < pb
theorem BtI.keep {h : Hp} {o : Nat} {host : Int} {ps : List (List It × D)} {qa : Nat} {g g' : Hp} {x : D} {bt : List (List It × D × Int)} {ats : List Nat} {pb : Nat} (B : BtI h o host ps qa g x bt ats) (L : BtL h o qa pb x bt) (hcd : CD g' o) (hlen : g.length ≤ g'.length) (hk : ∀ q, q < pb → q ≠ o → g'[q]? = g[q]?) : BtI h o host ps qa g' x bt ats := by
  have h1 := L.hh
  have h2 := L.ho
  have h3 := L.hqa
  have h4 := B.qa0
  refine ⟨Nat.le_trans B.len hlen, fun q hq hn => (hk q (by omega) hn).trans (B.gr q hq hn), hcd, B.qa0, (hk qa h3 (by omega)).trans B.at_, B.al, B.ab, B.out.keep fun q hq hin => hk q (L.hx q hin) (by omega), fun p hp => ⟨(B.its p hp).1.keep fun q hq hin => hk q (L.hbs p hp q hin) (by omega), (B.its p hp).2⟩⟩
structure BnI (h : Hp) (o : Nat) (host : Int) (ps : List (List It × D)) (qa : Nat) (x : D) (bt : List (List It × D × Int)) (pb : Nat) (nu : Int) (g : Hp) (ats : List Nat) (its : List It) (y : D) : Prop where
  B : BtI h o host ps qa g x bt ats
  pg : pb < g.length
  pr : g[pb]? = some (.row ty1064 3 [[.int .i64 host, .int .i64 nu, y]])
  ow : Own g (pb + 1) ty74 11 (its.map itr) y
  ok : ∀ i ∈ its, BIt host i
section
variable {h : Hp} {o : Nat} {host : Int} {ps : List (List It × D)} {qa : Nat} {x : D} {bt : List (List It × D × Int)} {pb : Nat} {nu : Int}
theorem BnI.keep {g g' : Hp} {ats : List Nat} {its : List It} {y : D} (b : BnI h o host ps qa x bt pb nu g ats its y) (L : BtL h o qa pb x bt) (hcd : CD g' o) (hlen : g.length ≤ g'.length) (hk : ∀ q, q ≤ pb → q ≠ o → g'[q]? = g[q]?) (hy : ∀ q, y.inOb q → g'[q]? = g[q]?) : BnI h o host ps qa x bt pb nu g' ats its y := by
  have := L.hh
  have := L.ho
  exact ⟨b.B.keep L hcd hlen fun q hq hn => hk q (by omega) hn, by have := b.pg; omega, (hk pb (Nat.le_refl _) (by omega)).trans b.pr, b.ow.keep fun q _ hin => hy q hin, b.ok⟩
theorem BnI.next {g g' : Hp} {ats : List Nat} {its : List It} {y : D} (b : BnI h o host ps qa x bt pb nu g ats its y) (L : BtL h o qa pb x bt) (hcd : CD g' o) (hs : Same o g g') : BnI h o host ps qa x bt pb nu g' ats its y :=
  b.keep L hcd (Nat.le_of_eq hs.1.symm) (fun q _ hn => hs.2 q hn) fun q hin => hs.2 q (by have := (b.ow.lt hin).1; have := L.hh; have := L.ho; omega)
theorem BnI.put {g g' : Hp} {ats : List Nat} {its : List It} {y : D} {z : Nat} (b : BnI h o host ps qa x bt pb nu g ats its y) (L : BtL h o qa pb x bt) (hz : pb < z) (hzy : ¬ y.inOb z) (hs : Same z g g') : BnI h o host ps qa x bt pb nu g' ats its y :=
  b.keep L (b.B.cd.keep (hs.2 o (by have := L.hh; have := L.ho; omega))) (Nat.le_of_eq hs.1.symm) (fun q hq _ => hs.2 q (by omega)) fun q hin => hs.2 q fun hh => hzy (hh ▸ hin)
theorem BnI.new {g g' : Hp} {ats : List Nat} {its : List It} {y : D} (b : BnI h o host ps qa x bt pb nu g ats its y) (L : BtL h o qa pb x bt) (hl : g.length ≤ g'.length) (hk : ∀ q, q < g.length → g'[q]? = g[q]?) : BnI h o host ps qa x bt pb nu g' ats its y := by
  have h1 := b.pg
  have h2 := L.hh
  have h3 := L.ho
  exact b.keep L (b.B.cd.keep (hk o (by omega))) hl (fun q hq _ => hk q (by omega)) fun q hin => hk q (b.ow.lt hin).2
theorem ix_at {g : Hp} {ats : List Nat} {n f a : Nat} (hg : g[qa]? = some (.row ty3 1 (ats.map atR))) (hn : ats.length = n) (hf : ats[f]? = some a) : dIndexAddr tab ty82 (.msl 1 qa 0 n) (.int .i64 (f : Int)) = some (.ptr qa f 0) ∧ dLoad tab g ty3 (.ptr qa f 0) = some (.int .i64 a) := by
  have := (List.getElem?_eq_some_iff.1 hf).1
  have hh : (0 : Int) ≤ (f : Int) ∧ (f : Int) < (n : Int) := by omega
  constructor
  · rw [ixm82, if_pos hh]; simp [-bind_some]
  · rw [ldp3, row_of hg, List.getElem?_map, hf]; rfl
end
theorem ldIt0 {g : Hp} {z : Nat} {i : It} (hz : g[z]? = some (.row ty74 11 [itr i])) : dLoad tab g ty74 (.ptr z 0 0) = some (.agg (itr i)) := ldob11 hz rfl
theorem itr_okv (i : It) : (D.agg (itr i)).okv = true := by
  have h1 := slof_one i.e.hld
  have h2 := slof_one i.e.hfd
  have h3 : (D.agg (itr i)) = .agg [.str i.r, .int .i64 i.e.a0, .int .i64 i.e.a1, .int .i64 i.e.a2, .int .i64 i.e.a3, i.e.ld, .int .i64 i.e.a5, .int .i64 i.e.a6, .str i.e.s7, .str i.e.s8, i.e.fd] := rfl
  rw [h3]
  generalize i.e.ld = a at h1
  generalize i.e.fd = b at h2
  cases a <;> first | (cases b <;> first | rfl | (simp [-bind_some, D.one] at h2)) | (simp [-bind_some, D.one] at h1)
theorem put_it {g : Hp} {z : Nat} {row : List D} {i : It} (hz : g[z]? = some (.row ty74 11 [row])) (hr : row.length = 11) {β : Type} {f : Hp → Option β} {Q : β → Prop}
    (k : ∀ g', g'[z]? = some (.row ty74 11 [itr i]) → Same z g g' → Wp (f g') Q) : Wp ((dStore tab g ty74 (.ptr z 0 0) (.agg (itr i))).bind f) Q := by
  refine wst74 hz (by rfl) (by rfl) (by rw [hr]; exact Nat.le_refl _) (itr_okv i) fun g' q s => k g' ?_ s
  have : spl row 0 (cells1 (.agg (itr i))) = itr i := by
    show row.take 0 ++ itr i ++ row.drop (0 + (itr i).length) = itr i
    rw [List.drop_of_length_le (by rw [hr]; exact Nat.le_refl _)]
    simp [-bind_some]
  rw [q, this]
  rfl
theorem app_it {h : Hp} {o : Nat} {host : Int} {ps : List (List It × D)} {qa : Nat} {x : D} {bt : List (List It × D × Int)} {pb : Nat} {nu : Int} {g : Hp} {ats : List Nat} {its : List It} {y : D} {i : It} {z : Nat} {β : Type} {f : Hp → Option β} {Q : β → Prop}
    (b : BnI h o host ps qa x bt pb nu g ats its y) (L : BtL h o qa pb x bt) (hl : its.length ≤ 1000) (hz : g[z]? = some (.row ty74 11 [itr i])) (hi : BIt host i)
    (k : ∀ g' y', BnI h o host ps qa x bt pb nu g' ats (its ++ [i]) y' → Wp (f g') Q) :
    Wp ((dFieldAddr tab ty1064 2 (.ptr pb 0 0)).bind fun t => (dLoad tab g ty113 t).bind fun t103 => (dLoad tab g ty74 (.ptr z 0 0)).bind fun t104 => (pLitF tab ty113 1 [0] [t104]).bind fun t105 => (dAppend tab g ty113 ty113 t103 t105).bind fun p => (dFieldAddr tab ty1064 2 (.ptr pb 0 0)).bind fun t107 => (dStore tab p.2 ty113 t107 p.1).bind f) Q := by
  have h1 := b.pg
  have h2 := L.hh
  have h3 := L.ho
  simp only [fap1064_2, ldp113, row_of b.pr, List.getElem?_cons_zero, bs, List.drop_succ_cons, List.drop_zero, List.head?_cons, Nat.zero_add, ldIt0 hz, bsIt]
  refine wap113 (n0 := pb + 1) h1 b.ow (rowsOf_sl _ _ _ _) (by simp; omega) fun y' g' ow len bel keep fre => ?_
  simp only [bs]
  have oc := one_cells (own_one ow)
  refine wst113 ((bel pb (by omega)).trans b.pr) (by rfl) (by rw [oc.1]; rfl) (by simp) oc.2 fun g2 q2 s2 => ?_
  rw [oc.1] at q2
  have h4 := s2.1
  refine k g2 y' ⟨b.B.keep L (b.B.cd.keep ((s2.2 o (by omega)).trans (bel o (by omega)))) (by omega) (fun q hq _ => (s2.2 q (by omega)).trans (bel q (by omega))), by omega, q2, ?_, fun j hj => ?_⟩
  · rw [List.map_append]
    exact ow.keep fun q hq _ => s2.2 q (by omega)
  · rcases List.mem_append.1 hj with hj | hj
    · exact b.ok j hj
    · simp at hj; subst hj; exact hi
end Go.Proofs.YthaajlepgblimaaDoor
