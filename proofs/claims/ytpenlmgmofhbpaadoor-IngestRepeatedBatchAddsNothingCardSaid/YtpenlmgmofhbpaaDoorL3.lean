/- Laws, on plain data, about functions that the statement reaches. -/
import Derived.Test.YtpenlmgmofhbpaaDoorL2
set_option linter.unusedSimpArgs false
set_option linter.unusedVariables false
set_option linter.unnecessarySimpa false
set_option maxRecDepth 100000
namespace Go.Proofs.YtpenlmgmofhbpaaDoor
open Go.Eng Go.Pi
theorem s1052 (l : List (Str × Str)) (d : D) (h : Hp) (hd : SlOf 2 fld l d) (hl : l.length ≤ 20) : ∃ d' h', R fn1052 [d] h = some (.tup [d', .int .i64 (sortF l).1], h') ∧ h.length ≤ h'.length ∧ (∀ q, q < h.length → h'[q]? = h[q]?) ∧ ((sortF l).1 = 0 → RdF h' (sortF l).2 d') := by
  suffices Wp (R fn1052 [d] h) (fun p => ∃ d', p.1 = .tup [d', .int .i64 (sortF l).1] ∧ h.length ≤ p.2.length ∧ (∀ q, q < h.length → p.2[q]? = h[q]?) ∧ ((sortF l).1 = 0 → RdF p.2 (sortF l).2 d')) by
    obtain ⟨⟨x, h'⟩, h1, d', rfl, h2⟩ := this
    exact ⟨d', h', h1, h2⟩
  rw [e1052]
  have h32 : ¬ (32 : Int) < (l.length : Int) := by omega
  have h32n : ¬ 32 < l.length := by omega
  simp only [F1052, bs, Option.bind_assoc, lens29 hd, dBin_gtr, h32, decide_false, dIf_bool, Bool.false_eq_true, if_false]
  refine l1052a l d h hd (by omega) _ _ _ _ _ (fun hv x y z w => ?_) (fun hv x y z w => ?_)
  · simp only [unblk_self, toEnd_nrm, nth_zero, nth_succ, bs]
    obtain ⟨d1, h1, e1, hl1, hb1, hd1⟩ := u1009 l d h hd (by omega)
    simp only [e1, bs]
    have hsrt : ∃ x h2, R fn1057 [d1, .fn (.func fn1058) [] []] h1 = some (x, h2) ∧ h.length ≤ h2.length ∧ (∀ q, q < h.length → h2[q]? = h[q]?) ∧ RdF h2 (srt l) d1 := by
      rcases hd1 with ⟨rfl, hd1⟩ | ⟨ob, hob, rfl, ho⟩
      · obtain ⟨x, hx⟩ := s1057e d1 (.fn (.func fn1058) [] []) h1 hd1
        exact ⟨x, h1, hx, hl1, hb1, .inl hd1⟩
      · obtain ⟨x, h2, q1, q2, q3⟩ := s1057 cF (.fn (.func fn1058) [] []) (fun x y g => c1058 x y g) ob l.length hl l rfl h1 ho
        refine ⟨x, h2, q1, by have := q3.1; omega, fun q hq => (q3.2 q (by omega)).trans (hb1 q hq), .inr ⟨ob, by rw [srt_len], q2⟩⟩
    obtain ⟨u, h2, e2, hl2, hb2, hr⟩ := hsrt
    simp only [e2, bs]
    refine l1052b (srt l) d1 h2 hr (by rw [srt_len]; omega) _ _ _ _ (fun ha x y z => ?_) (fun ha x y z => ?_)
    · have hs : sortF l = (0, srt l) := by simp only [sortF, h32n, if_false, hv, if_true, ha, Bool.false_eq_true]
      rw [hs]
      simp only [unblk_self, toEnd_nrm, bs, mkRes_two]
      exact .some ⟨d1, rfl, hl2, hb2, fun _ => hr⟩
    · have hs : sortF l = (7, []) := by simp only [sortF, h32n, if_false, hv, if_true, ha]
      rw [hs]
      simp only [unblk_ret, toEnd_ret, exEnd_ret, nth_zero, nth_succ, bs, mkRes_two]
      exact .some ⟨.nils, rfl, hl2, hb2, fun hh => by cases hh⟩
  · have hs : sortF l = (6, []) := by simp only [sortF, h32n, if_false, hv]; rfl
    rw [hs]
    simp only [unblk_ret, toEnd_ret, exEnd_ret, nth_zero, nth_succ, bs, mkRes_two]
    exact .some ⟨.nils, rfl, Nat.le_refl _, fun _ _ => rfl, fun hh => by cases hh⟩
theorem s1053 (l r : List (Str × Str)) (d e : D) (h : Hp) (hd : RdF h l d) (he : RdF h r e) (hl : l.length ≤ 1000) : R fn1053 [d, e] h = some (.bool (decide (l = r)), h) := by
  suffices Wp (R fn1053 [d, e] h) (fun p => p = (.bool (decide (l = r)), h)) by
    obtain ⟨p, h1, rfl⟩ := this
    exact h1
  rw [e1053]
  simp only [F1053, bs, Option.bind_assoc, rdF_len hd, rdF_len he, dBin_neq]
  by_cases hlen : (l.length : Int) = (r.length : Int)
  · have hlen' : l.length = r.length := by omega
    simp only [hlen, ne_eq, not_true, decide_false, dIf_bool, Bool.false_eq_true, if_false]
    generalize hV : decide (l = r) = V
    refine Wp.loop (fun k ds g => g = h ∧ ∃ a b c f, ∃ i : Nat, ds = [a, b, .int .i64 i, c, f] ∧ k + i = r.length ∧ decide (l.drop i = r.drop i) = V)
      (fun x => x.2.2 = h ∧ ((x.1 = .ext 0 ∧ V = true) ∨ (x.1 = .ret ∧ V = false ∧ nth 0 x.2.1 = .bool false))) r.length ⟨rfl, _, _, _, _, 0, rfl, rfl, hV⟩ ?_ ?_
    · rintro k ds g ⟨rfl, a, b, c, f, i, rfl, hk, hch⟩
      simp only [F1053_L0, nth_zero, nth_succ, bs, Option.bind_assoc, dBin_lss]
      refine Wp.dif ?_ ?_
      · intro h0
        have h0 : i < r.length := by have : (i : Int) < r.length := by simpa [-Option.bind_some] using h0
                                     omega
        have gl : l[i]? = some l[i] := List.getElem?_eq_getElem (by omega)
        have gr : r[i]? = some r[i] := List.getElem?_eq_getElem h0
        have hw : IntKind.wrap .i64 ((i : Int) + 1) = ((i + 1 : Nat) : Int) := by
          rw [wrap_i64 (by omega) (by omega)]; omega
        rw [List.drop_eq_getElem_cons (show i < l.length by omega), List.drop_eq_getElem_cons h0] at hch
        generalize l[i] = x at gl hch
        generalize r[i] = y at gr hch
        obtain ⟨q1, a1, b1, _⟩ := rdF_ix hd i x gl
        obtain ⟨q0, a0, b0, _⟩ := rdF_ix he i y gr
        simp only [a1, a0, b1, b0, bs, fld_neq]
        by_cases hxy : x = y
        · subst hxy
          simp only [ne_eq, not_true, decide_false, dIf_bool, Bool.false_eq_true, if_false, dBin_add, bs, hw]
          exact .some (.inl ⟨rfl, k - 1, by omega, rfl, _, _, _, _, i + 1, rfl, by omega, by rw [← hch]; simp [-Option.bind_some]⟩)
        · have hne : decide (x ≠ y) = true := by simpa [-Option.bind_some] using hxy
          simp only [hne, dIf_bool, if_true]
          exact .some (.inr ⟨by simp [-Option.bind_some], rfl, .inr ⟨rfl, by rw [← hch]; simp [-Option.bind_some, hxy], rfl⟩⟩)
      · intro h0
        have h0 : r.length ≤ i := by have : ¬ (i : Int) < r.length := by simpa [-Option.bind_some] using h0
                                     omega
        rw [List.drop_of_length_le h0, List.drop_of_length_le (by omega)] at hch
        exact .some (.inr ⟨by simp [-Option.bind_some], rfl, .inl ⟨rfl, by rw [← hch]; simp [-Option.bind_some]⟩⟩)
    · rintro ⟨x, ds, g⟩ ⟨h2, h3⟩
      simp only at h2 h3
      subst h2
      rcases h3 with ⟨rfl, hv⟩ | ⟨rfl, hv, hn⟩
      · simp only [unblk_self, toEnd_nrm, bs, mkRes_one, hv]
        exact .some rfl
      · simp only [unblk_ret, toEnd_ret, exEnd_ret, nth_zero, bs, hn, mkRes_one, hv]
        exact .some rfl
  · have hne : decide ((l.length : Int) ≠ (r.length : Int)) = true := by simpa [-Option.bind_some] using hlen
    have hlr : decide (l = r) = false := by
      simp [-Option.bind_some]; intro hh; subst hh; exact hlen rfl
    simp only [hne, dIf_bool, if_true, mkRes_one, hlr]
    exact .some rfl
theorem l1060 (l : List (Str × Str)) (d : D) (fn : D) (pr : Str × Str → Bool) (h : Hp) (hd : RdF h l d) (hl : l.length ≤ 9223372036854775807) (hf : ∀ x, callV R fn [.agg (fld x)] h = some (.bool (pr x), h)) {β : Type} (K : Out → Option β) (X : Int → Option β)
   (hX : ∀ v r, K (.ret, .int .i64 v :: r, h) = X v) (hY : ∀ r, K (.ext 0, r, h) = X (-1)) : ∀ (suf pre : List (Str × Str)), l = pre ++ suf → ∀ a b e f,
   (loopW (F1060_L0 d fn (.int .i64 l.length)) [a, b, .int .i64 pre.length, e, f] h).bind K = X (idx pr pre.length suf) := by
  intro suf
  induction suf with
  | nil =>
    rintro pre rfl a b e f
    rw [loopW_eq]
    simp [-Option.bind_some, F1060_L0, hY, idx]
  | cons p suf ih =>
    rintro pre rfl a b e f
    have hw : IntKind.wrap .i64 ((pre.length : Int) + 1) = (pre ++ [p]).length := by
      rw [wrap_i64 (by omega) (by simp [-Option.bind_some] at hl; omega)]; simp [-Option.bind_some]
    have hlt : (pre.length : Int) < (pre ++ p :: suf).length := by simp [-Option.bind_some]; omega
    rw [loopW_eq]
    generalize hL : pre ++ p :: suf = L at *
    have hg : L[pre.length]? = some p := by rw [← hL]; exact get_mid _ _ _
    obtain ⟨q, a1, b1, _⟩ := rdF_ix hd _ _ hg
    by_cases hp : pr p = true
    · simp [-Option.bind_some, F1060_L0, a1, b1, hlt, hf, hp, hX, idx]
    · have := ih (pre ++ [p]) (by simp [-Option.bind_some, ← hL]) a (.int .i64 pre.length) (.bool true) (.bool (pr p))
      simp only [← hw] at this
      simp [-Option.bind_some, F1060_L0, a1, b1, hlt, hf, hp, idx]
      simp [-Option.bind_some, hp] at this
      exact this
theorem s1060 (l : List (Str × Str)) (d : D) (fn : D) (pr : Str × Str → Bool) (h : Hp) (hd : RdF h l d) (hl : l.length ≤ 9223372036854775807) (hf : ∀ x, callV R fn [.agg (fld x)] h = some (.bool (pr x), h)) :
   R fn1060 [d, fn] h = some (.int .i64 (idx pr 0 l), h) := by
  rw [e1060]
  simp only [F1060, bs, rdF_len hd, Option.bind_assoc]
  rw [show (0 : Int) = (([] : List (Str × Str)).length : Int) from rfl, l1060 l d fn pr h hd hl hf _ (fun v => some (.int .i64 v, h)) (fun v r => by simp [-Option.bind_some]) (fun r => by simp [-Option.bind_some]) l [] rfl]
  rfl
theorem s1055 (p : Str × Str) (h : Hp) : R fn1055 [.agg (fld p)] h = some (.bool (decide (2000 < p.2.length)), h) := by
  rw [e1055]
  simp [-Option.bind_some, F1055, fld]
  omega
theorem s1054 (l : List (Str × Str)) (d : D) (h : Hp) (hd : RdF h l d) (hl : l.length ≤ 9223372036854775807) : R fn1054 [d, .fn (.func fn1055) [] []] h = some (.bool (l.any fun p => decide (2000 < p.2.length)), h) := by
  rw [e1054]
  simp only [F1054, bs, s1060 l d (.fn (.func fn1055) [] []) (fun p => decide (2000 < p.2.length)) h hd hl (fun x => by rw [callV_some]; exact s1055 x h), dBin_geq, mkRes_one]
  rw [idx_any]
theorem s1050 (l : Lin) (h : Hp) : R fn1050 [.agg (linr l)] h = some (.bool (!(l.txt == [])), h) := by
  rw [e1050]
  simp [-Option.bind_some, F1050, linr]
theorem s1049 (l : List Lin) (d : D) (h : Hp) (hd : SlOf 3 linr l d) (hl : l.length ≤ 9223372036854775807) : R fn1049 [d, .fn (.func fn1050) [] []] h = some (.bool (l.any fun p => !(p.txt == [])), h) := by
  rw [e1049]
  simp only [F1049, bs, s1006 l d (.fn (.func fn1050) [] []) (fun p => !(p.txt == [])) h hd hl (fun x => by rw [callV_some]; exact s1050 x h), dBin_geq, mkRes_one]
  rw [idx_any]
/-- What Check of package event gives. -/
def evE (e : Ev) : Int :=
  if (!plB e || !(decide (0 ≤ e.a5) && decide (e.a5 ≤ 253402300799999))) = true then 2
  else if e.a6 < 1 ∨ Int.tmod 5040 e.a6 ≠ 0 then 21
  else if linesE e 2000 ≠ 0 then linesE e 2000
  else if 32 < e.s7.length ∨ 32 < e.s8.length then 3
  else if (sortF e.fs).1 ≠ 0 then (sortF e.fs).1
  else if (sortF e.fs).2 ≠ e.fs then 19
  else if ((sortF e.fs).2.any fun p => decide (2000 < p.2.length)) = true then 3 else 0
theorem sortF_len (l : List (Str × Str)) : (sortF l).2.length ≤ l.length := by
  unfold sortF
  split
  · simp [-Option.bind_some]
  · split
    · split
      · simp [-Option.bind_some]
      · simp [-Option.bind_some, srt_len]
    · simp [-Option.bind_some]
theorem s1043 (e : Ev) (h : Hp) (hf : e.fs.length ≤ 20) : R fn1043 [.agg (evr e)] h = some (.int .i64 (evE e), h) := by
  suffices Wp (R fn1043 [.agg (evr e)] h) (fun p => p = (.int .i64 (evE e), h)) by
    obtain ⟨p, h1, rfl⟩ := this
    exact h1
  have sc : ∀ (g : Hp) (v : Int), h.length ≤ g.length → (∀ q, q < h.length → g[q]? = h[q]?) → scope h g (.int .i64 v) = some (.int .i64 v, h) := fun g v h1 h2 => scope_eq (by simp [-Option.bind_some]) (.int _ _) h1 h2
  have k1 := s1051 e.a5 0 253402300799999 h
  rw [e1043]
  simp only [F1043, pBoxF_agg, bs, Option.bind_assoc, evL, s1047, mkRes_one]
  have q5 : dFieldAddr tab ty31 5 (.fptr (evr e)) = some (.fptr [.int .i64 e.a5, .int .i64 e.a6, .str e.s7, .str e.s8, e.fd]) := id rfl
  have q6 : dFieldAddr tab ty31 6 (.fptr (evr e)) = some (.fptr [.int .i64 e.a6, .str e.s7, .str e.s8, e.fd]) := id rfl
  have q7 : dFieldAddr tab ty31 7 (.fptr (evr e)) = some (.fptr [.str e.s7, .str e.s8, e.fd]) := id rfl
  have q8 : dFieldAddr tab ty31 8 (.fptr (evr e)) = some (.fptr [.str e.s8, e.fd]) := id rfl
  have q9 : dFieldAddr tab ty31 9 (.fptr (evr e)) = some (.fptr [e.fd]) := id rfl
  unfold evE
  generalize hb1 : plB e = b1
  generalize hb2 : (decide (0 ≤ e.a5) && decide (e.a5 ≤ 253402300799999)) = b2 at k1 ⊢
  have first : ∀ {β : Type} (f : D → D × Hp → D → Option β) (Q : β → Prop), (∀ x p t, p.2 = h → t = .bool (!b1 || !b2) → Wp (f x p t) Q) → Wp ((dUn .not (.bool b1)).bind fun t9 => (gd t9 false (some (.fptr [.int .i64 e.a5, .int .i64 e.a6, .str e.s7, .str e.s8, e.fd]))).bind fun t11 => (gd t9 false (dLoad tab h ty3 t11)).bind fun t12 => (gdW t9 false h (R fn1051 [t12, .int .i64 0, .int .i64 253402300799999] h)).bind fun p13 => (gd t9 false (dUn .not p13.1)).bind fun t14 => (dPick t9 (.bool true) t14).bind fun t15 => f t9 p13 t15) Q := fun f Q hk => by
    cases b1
    · simp only [dUn_not, Bool.not_false, bs, gd_bool, gdW_bool, reduceCtorEq, if_false, dPick_bool, if_true]
      exact hk _ _ _ rfl rfl
    · simp only [dUn_not, Bool.not_true, bs, gd_bool, gdW_bool, if_true, ld3, k1, dPick_bool, Bool.false_eq_true, if_false]
      exact hk _ _ _ rfl (by simp [-Option.bind_some])
  simp only [q5, q6, q7, q8, q9]
  refine first _ _ fun x p t hp ht => ?_
  subst ht
  obtain ⟨px, p⟩ := p
  simp only at hp
  subst hp
  clear first
  simp only [dIf_bool]
  by_cases c1 : (!b1 || !b2) = true
  · simp only [c1, if_true, sc _ _ (Nat.le_refl _) (fun _ _ => rfl)]
    exact .some rfl
  simp only [c1, if_false, Bool.false_eq_true, ld3, ld9, ld29, bs, dBin_lss, len9, dBin_gtr, dBin_rem, dBin_neq]
  by_cases c2 : e.a6 < 1
  · simp only [c2, true_or, decide_true, if_true, gd_bool, reduceCtorEq, if_false, Bool.true_eq_false, bs, dPick_bool, dIf_bool, sc _ _ (Nat.le_refl _) (fun _ _ => rfl)]
    exact .some rfl
  have c20 : ¬ e.a6 = 0 := by omega
  by_cases c3n : ¬ Int.tmod 5040 e.a6 = 0
  · have c3 := c3n
    simp only [c2, c20, c3, ne_eq, not_false_eq_true, or_true, decide_true, decide_false, if_true, gd_bool, if_false, Bool.false_eq_true, bs, dPick_bool, dIf_bool, ld3, dBin_rem, dBin_neq, sc _ _ (Nat.le_refl _) (fun _ _ => rfl)]
    exact .some rfl
  have c3 : Int.tmod 5040 e.a6 = 0 := Decidable.not_not.1 c3n
  simp only [c2, c20, c3, ne_eq, not_true, or_self, decide_false, if_true, gd_bool, if_false, Bool.false_eq_true, bs, dPick_bool, dIf_bool, ld3, dBin_rem, dBin_neq, s1048]
  generalize hL : linesE e 2000 = L
  by_cases c4n : ¬ L = 0
  · have c4 := c4n
    simp only [c4, ne_eq, not_false_eq_true, decide_true, if_true, sc _ _ (Nat.le_refl _) (fun _ _ => rfl)]
    exact .some rfl
  have c4 : L = 0 := Decidable.not_not.1 c4n
  subst c4
  simp only [ne_eq, not_true, decide_false, Bool.false_eq_true, if_false, if_true]
  by_cases c5 : 32 < e.s7.length
  · have c5' : (32 : Int) < (e.s7.length : Int) := by omega
    simp only [c5, c5', true_or, decide_true, if_true, gd_bool, reduceCtorEq, if_false, Bool.true_eq_false, bs, dPick_bool, dIf_bool, sc _ _ (Nat.le_refl _) (fun _ _ => rfl)]
    exact .some rfl
  have c5' : ¬ (32 : Int) < (e.s7.length : Int) := by omega
  by_cases c6 : 32 < e.s8.length
  · have c6' : (32 : Int) < (e.s8.length : Int) := by omega
    simp only [c5, c5', c6, c6', or_true, decide_true, decide_false, if_true, gd_bool, if_false, Bool.false_eq_true, bs, ld9, len9, dBin_gtr, dPick_bool, sc _ _ (Nat.le_refl _) (fun _ _ => rfl)]
    exact .some rfl
  have c6' : ¬ (32 : Int) < (e.s8.length : Int) := by omega
  obtain ⟨d', h', hs, hl', hb', hr'⟩ := s1052 e.fs e.fd p e.hfd hf
  simp only [c5, c5', c6, c6', or_self, decide_false, if_true, gd_bool, if_false, Bool.false_eq_true, bs, ld9, len9, dBin_gtr, dPick_bool, dIf_bool, hs, dExtract_tup, List.getElem?_cons_zero, List.getElem?_cons_succ]
  have hsl := sortF_len e.fs
  generalize hS : sortF e.fs = S at hs hr' hsl
  obtain ⟨v, s⟩ := S
  simp only at hr' hsl ⊢
  by_cases c7n : ¬ v = 0
  · have c7 := c7n
    simp only [c7, ne_eq, not_false_eq_true, decide_true, if_true, sc _ _ hl' hb', dIf_bool, dBin_neq, bs]
    exact .some rfl
  have c7 : v = 0 := Decidable.not_not.1 c7n
  subst c7
  have hr := hr' rfl
  have hfd : RdF h' e.fs e.fd := .inl e.hfd
  simp only [ne_eq, not_true, decide_false, Bool.false_eq_true, if_false, dIf_bool, dBin_neq, s1053 s e.fs d' e.fd h' hr hfd (by omega), bs, dUn_not, s1054 s d' h' hr (by omega)]
  by_cases c8n : ¬ s = e.fs
  · have c8 := c8n
    simp only [c8, not_false_eq_true, decide_false, Bool.not_false, if_true, sc _ _ hl' hb', dIf_bool, dBin_neq, bs]
    exact .some rfl
  have c8 : s = e.fs := Decidable.not_not.1 c8n
  subst c8
  simp only [not_true, decide_true, Bool.not_true, if_false, Bool.false_eq_true, sc _ _ hl' hb', dIf_bool, dBin_neq, bs]
  split
  · exact .some rfl
  · exact .some rfl
/-- What CheckItem of package event gives. -/
def itE (i : It) : Int :=
  if i.r = [] then evE i.e
  else if 32 < i.r.length then 3
  else if plB i.e = false then 2
  else if linesE i.e 60000 = 9 ∨ linesE i.e 60000 = 4 ∨ linesE i.e 60000 = 19 then linesE i.e 60000
  else if i.e.a5 ≠ 0 ∨ i.e.a6 ≠ 0 ∨ i.e.s7 ≠ [] ∨ i.e.s8 ≠ [] ∨ i.e.fs.length ≠ 0 ∨ (i.e.ls.any fun p => !(p.txt == [])) = true then 19 else 0
theorem s1042 (i : It) (h : Hp) (hf : i.e.fs.length ≤ 20) : R fn1042 [.agg (itr i)] h = some (.int .i64 (itE i), h) := by
  have hbx : boxN 10 (.agg (evr i.e)) = some (.fptr (evr i.e)) := boxN_agg 10 _ rfl
  have q4 : dFieldAddr tab ty31 4 (.fptr (evr i.e)) = some (.fptr [i.e.ld, .int .i64 i.e.a5, .int .i64 i.e.a6, .str i.e.s7, .str i.e.s8, i.e.fd]) := id rfl
  have q5 : dFieldAddr tab ty31 5 (.fptr (evr i.e)) = some (.fptr [.int .i64 i.e.a5, .int .i64 i.e.a6, .str i.e.s7, .str i.e.s8, i.e.fd]) := id rfl
  have q6 : dFieldAddr tab ty31 6 (.fptr (evr i.e)) = some (.fptr [.int .i64 i.e.a6, .str i.e.s7, .str i.e.s8, i.e.fd]) := id rfl
  have q7 : dFieldAddr tab ty31 7 (.fptr (evr i.e)) = some (.fptr [.str i.e.s7, .str i.e.s8, i.e.fd]) := id rfl
  have q8 : dFieldAddr tab ty31 8 (.fptr (evr i.e)) = some (.fptr [.str i.e.s8, i.e.fd]) := id rfl
  have q9 : dFieldAddr tab ty31 9 (.fptr (evr i.e)) = some (.fptr [i.e.fd]) := id rfl
  rw [e1042]
  simp only [F1042, pBoxF_agg, bs, itF0, itF1, itL0, evL, hbx, dBin_seql, mkRes_one]
  unfold itE
  by_cases c0 : i.r = []
  · simp only [c0, beq_self_eq_true, dIf_bool, if_true, s1043 i.e h hf, bs]
  have c0' : (i.r == []) = false := by simpa [-Option.bind_some] using c0
  simp only [c0, c0', dIf_bool, Bool.false_eq_true, if_false, len9, bs, dBin_gtr]
  by_cases c1 : 32 < i.r.length
  · have c1' : (32 : Int) < (i.r.length : Int) := by omega
    simp only [c1, c1', decide_true, if_true]
  have c1' : ¬ (32 : Int) < (i.r.length : Int) := by omega
  simp only [c1, c1', decide_false, Bool.false_eq_true, if_false, s1047, bs, dUn_not]
  cases hb : plB i.e
  · simp only [Bool.not_false, dIf_bool, if_true]
  simp only [Bool.not_true, dIf_bool, Bool.false_eq_true, Bool.true_eq_false, if_false, s1048, bs, dBin_eql]
  generalize linesE i.e 60000 = L
  by_cases c2 : L = 9
  · subst c2
    simp [-Option.bind_some]
  by_cases c3 : L = 4
  · subst c3
    simp [-Option.bind_some]
  by_cases c4 : L = 19
  · subst c4
    simp [-Option.bind_some]
  simp only [c2, c3, c4, or_self, decide_false, gd_bool, if_true, bs, dPick_bool, dIf_bool, Bool.false_eq_true, if_false, q5, q6, q7, q8, q9, q4, ld3, ld9, ld29, ld28, dBin_neq]
  have hfl : (i.e.fs.length : Int) = 0 ↔ i.e.fs.length = 0 := by omega
  have h49 := s1049 i.e.ls i.e.ld h i.e.hld i.e.hll
  generalize (i.e.ls.any fun p => !(p.txt == [])) = bb at h49 ⊢
  by_cases d1n : ¬ i.e.a5 = 0
  · simp only [c2, c3, c4, dBin_eql, d1n, ne_eq, not_true, not_false_eq_true, true_or, or_true, false_or, or_false, decide_true, decide_false, gd_bool, gdW_bool, gd_und, gdW_und, reduceCtorEq, if_true, if_false, Bool.false_eq_true, Bool.true_eq_false, bs, dPick_bool, dIf_bool, ld3, ld9, ld29, ld28, dBin_neq, dBin_sneq, lens29 i.e.hfd, hfl, h49, beq_self_eq_true, Bool.not_true, Bool.not_false, or_self]
  have d1 : i.e.a5 = 0 := Decidable.not_not.1 d1n
  by_cases d2n : ¬ i.e.a6 = 0
  · simp only [c2, c3, c4, dBin_eql, d1, d2n, ne_eq, not_true, not_false_eq_true, true_or, or_true, false_or, or_false, decide_true, decide_false, gd_bool, gdW_bool, gd_und, gdW_und, reduceCtorEq, if_true, if_false, Bool.false_eq_true, Bool.true_eq_false, bs, dPick_bool, dIf_bool, ld3, ld9, ld29, ld28, dBin_neq, dBin_sneq, lens29 i.e.hfd, hfl, h49, beq_self_eq_true, Bool.not_true, Bool.not_false, or_self]
  have d2 : i.e.a6 = 0 := Decidable.not_not.1 d2n
  by_cases d3n : ¬ i.e.s7 = []
  · have d3b : (i.e.s7 == []) = false := by simpa [-Option.bind_some] using d3n
    simp only [c2, c3, c4, dBin_eql, d1, d2, d3n, d3b, ne_eq, not_true, not_false_eq_true, true_or, or_true, false_or, or_false, decide_true, decide_false, gd_bool, gdW_bool, gd_und, gdW_und, reduceCtorEq, if_true, if_false, Bool.false_eq_true, Bool.true_eq_false, bs, dPick_bool, dIf_bool, ld3, ld9, ld29, ld28, dBin_neq, dBin_sneq, lens29 i.e.hfd, hfl, h49, beq_self_eq_true, Bool.not_true, Bool.not_false, or_self]
  have d3 : i.e.s7 = [] := Decidable.not_not.1 d3n
  by_cases d4n : ¬ i.e.s8 = []
  · have d4b : (i.e.s8 == []) = false := by simpa [-Option.bind_some] using d4n
    simp only [c2, c3, c4, dBin_eql, d1, d2, d3, d4n, d4b, ne_eq, not_true, not_false_eq_true, true_or, or_true, false_or, or_false, decide_true, decide_false, gd_bool, gdW_bool, gd_und, gdW_und, reduceCtorEq, if_true, if_false, Bool.false_eq_true, Bool.true_eq_false, bs, dPick_bool, dIf_bool, ld3, ld9, ld29, ld28, dBin_neq, dBin_sneq, lens29 i.e.hfd, hfl, h49, beq_self_eq_true, Bool.not_true, Bool.not_false, or_self]
  have d4 : i.e.s8 = [] := Decidable.not_not.1 d4n
  by_cases d5n : ¬ i.e.fs.length = 0
  · simp only [c2, c3, c4, dBin_eql, d1, d2, d3, d4, d5n, ne_eq, not_true, not_false_eq_true, true_or, or_true, false_or, or_false, decide_true, decide_false, gd_bool, gdW_bool, gd_und, gdW_und, reduceCtorEq, if_true, if_false, Bool.false_eq_true, Bool.true_eq_false, bs, dPick_bool, dIf_bool, ld3, ld9, ld29, ld28, dBin_neq, dBin_sneq, lens29 i.e.hfd, hfl, h49, beq_self_eq_true, Bool.not_true, Bool.not_false, or_self]
  have d5 : i.e.fs.length = 0 := Decidable.not_not.1 d5n
  simp only [c2, c3, c4, dBin_eql, d1, d2, d3, d4, d5, ne_eq, not_true, not_false_eq_true, true_or, or_true, false_or, or_false, decide_true, decide_false, gd_bool, gdW_bool, gd_und, gdW_und, reduceCtorEq, if_true, if_false, Bool.false_eq_true, Bool.true_eq_false, bs, dPick_bool, dIf_bool, ld3, ld9, ld29, ld28, dBin_neq, dBin_sneq, lens29 i.e.hfd, hfl, h49, beq_self_eq_true, Bool.not_true, Bool.not_false, or_self]
  cases bb <;> simp [-Option.bind_some, h49]
theorem cmpB_neg : ∀ (a b : Str), Lib.compareBytes a b = - Lib.compareBytes b a
  | [], [] => rfl
  | [], _ :: _ => rfl
  | _ :: _, [] => rfl
  | x :: a, y :: b => by
    have ih := cmpB_neg a b
    simp only [Lib.compareBytes]
    by_cases h1 : x < y
    · have h2 : ¬ y < x := by
        have := UInt8.lt_iff_toNat_lt.1 h1
        intro hh
        have := UInt8.lt_iff_toNat_lt.1 hh
        omega
      simp [-Option.bind_some, h1, h2]
    · by_cases h2 : y < x
      · simp [-Option.bind_some, h1, h2]
      · simp [-Option.bind_some, h1, h2, ih]
theorem asc_srt {l : List (Str × Str)} (h : Asc l) : srt l = l := by
  have hd : ∀ j, dn cF 0 j l = l := fun j => by
    cases j with
    | zero => rfl
    | succ j =>
      unfold dn
      split
      · rename_i x y hx hy
        split
        · rename_i hc
          exfalso
          have h1 := (h j y x hy hx).1
          have h2 := (cmpB_lt y.1 x.1).2 h1
          have h3 := cmpB_neg x.1 y.1
          have h4 := hc.2
          unfold cF at h4
          omega
        · rfl
      · rfl
  have hi : ∀ n i, isr cF 0 i n l = l := fun n => by
    induction n with
    | zero => intro i; rfl
    | succ n ih => intro i; unfold isr; rw [hd]; exact ih _
  exact hi _ _
theorem asc_adj : ∀ {l : List (Str × Str)}, Asc l → adjB l = false
  | [], _ => rfl
  | [_], _ => rfl
  | x :: y :: r, h => by
    unfold adjB
    have h0 := (h 0 x y rfl rfl).2
    have h1 : (y.1 == x.1) = false := by simp [-Option.bind_some]; exact fun hh => h0 hh.symm
    rw [h1, Bool.false_or]
    exact asc_adj fun i p q hp hq => h (i + 1) p q hp hq
theorem asc_sort {l : List (Str × Str)} (h : Asc l) (hl : l.length ≤ 32) (hn : ∀ p ∈ l, fnameOK p.1 = true) : sortF l = (0, l) := by
  have h32 : ¬ 32 < l.length := by omega
  have ha : l.all (fun p => fnameOK p.1) = true := List.all_eq_true.2 hn
  simp only [sortF, h32, if_false, ha, if_true, asc_srt h, asc_adj h, Bool.false_eq_true]
/-- A tally. -/
structure Tal where
  h : Int
  r : Str
  n : Int
def talr (t : Tal) : List D := [.int .i64 t.h, .str t.r, .int .i64 t.n]
theorem talr_ld (m : Tal) (h : Hp) : dLoad tab h ty106 (.fptr (talr m)) = some (.agg (talr m)) := id rfl
theorem talr_frz (n0 : Nat) (h : Hp) (n : Nat) (p : Tal) : ∀ d ∈ talr p, frz n0 h n d = d := by simp [-Option.bind_some, talr]
theorem talr_ok (n : Nat) (p : Tal) : ∀ d ∈ talr p, Ok n d := by
  intro d hd
  simp [-Option.bind_some, talr] at hd
  rcases hd with rfl | rfl | rfl <;> constructor
def cmpS (a b : Str) : Int := if Op.bytesLess a b = true then -1 else if a = b then 0 else 1
theorem s100 (s : Str) (h : Hp) : R fn100 [.str s] h = some (.bool false, h) := by
  rw [e100]
  simp [-Option.bind_some, F100]
theorem s91 (a b : Str) (h : Hp) : R fn91 [.str a, .str b] h = some (.int .i64 (cmpS a b), h) := by
  rw [e91]
  simp only [F91, bs, s100, dIf_bool, Bool.false_eq_true, if_false, dBin_slss, sgtr, cmpS, mkRes_one]
  cases h0 : Op.bytesLess a b
  · by_cases h1 : a = b <;> simp [-Option.bind_some, h1]
  · simp [-Option.bind_some]
def cmpT (a b : Tal) : Int := orI [cmpI a.h b.h, cmpS a.r b.r]
theorem s88 (a b : Tal) (h : Hp) : R fn88 [.agg (talr a), .agg (talr b)] h = some (.int .i64 (cmpT a b), h) := by
  have hb : ∀ n0 n1 : Int, pLitF tab ty82 2 [0, 1] [.int .i64 n0, .int .i64 n1] = some (.sl 1 true ([n0, n1].map inr)) := fun n0 n1 => id rfl
  have h89 := s89 [cmpI a.h b.h, cmpS a.r b.r] (.sl 1 true [inr (cmpI a.h b.h), inr (cmpS a.r b.r)]) h (SlOf.mk 1 inr [cmpI a.h b.h, cmpS a.r b.r] true) (by simp [-Option.bind_some])
  rw [e88]
  simp [-Option.bind_some, F88, talr, s90, s91, hb, h89, cmpT]
/-- A slice of tallies that can be read here. -/
def RdT (h : Hp) (l : List Tal) (d : D) : Prop := SlOf 3 talr l d ∨ ∃ ob, d = .msl 3 ob 0 l.length ∧ h[ob]? = some (.row ty106 3 (l.map talr))
theorem rdT_len {h : Hp} {l : List Tal} {d : D} (hd : RdT h l d) : dLenT tab ty58 d = some (.int .i64 l.length) := by
  rcases hd with hd | ⟨ob, rfl, _⟩
  · exact lens58 hd
  · exact lenm58 _ _ _ _
theorem rdT_ix {h : Hp} {l : List Tal} {d : D} (hd : RdT h l d) (i : Nat) (p : Tal) (hp : l[i]? = some p) : ∃ q, dIndexAddr tab ty58 d (.int .i64 i) = some q ∧ dLoad tab h ty106 q = some (.agg (talr p)) := by
  have hi := (List.getElem?_eq_some_iff.1 hp).1
  rcases hd with hd | ⟨ob, rfl, ho⟩
  · exact ⟨.fptr (talr p), by rw [ixs58 hd]; simp [-Option.bind_some, hp], talr_ld p h⟩
  · have hr : (l.map talr)[i]? = some (talr p) := by rw [List.getElem?_map, hp]; rfl
    have hh : (0 : Int) ≤ (i : Int) ∧ (i : Int) < (l.length : Int) := by omega
    refine ⟨.ptr ob i 0, by rw [ixm58]; simp [-Option.bind_some, hh], ?_⟩
    rw [ldp106, row_of ho, hr]; rfl
theorem s87 (l : List Tal) (d : D) (t : Tal) (fn : D) (c : Tal → Int) (h : Hp) (hd : RdT h l d) (hl : l.length ≤ 1000000) (hf : ∀ x, callV R fn [.agg (talr x), .agg (talr t)] h = some (.int .i64 (c x), h))
   (k : Nat) (hk : k ≤ l.length) (h1 : ∀ i x, l[i]? = some x → i < k → c x < 0) (h2 : ∀ i x, l[i]? = some x → k ≤ i → 0 ≤ c x) :
   R fn87 [d, .agg (talr t), fn] h = some (.tup [.int .i64 k, .bool (match l[k]? with | some x => decide (c x = 0) | none => false)], h) := by
  suffices Wp (R fn87 [d, .agg (talr t), fn] h) (fun p => p = (.tup [.int .i64 k, .bool (match l[k]? with | some x => decide (c x = 0) | none => false)], h)) by
    obtain ⟨p, h1, rfl⟩ := this
    exact h1
  rw [e87]
  simp only [F87, pBoxF_agg, bs, Option.bind_assoc, rdT_len hd]
  refine Wp.loop (fun n ds g => g = h ∧ ∃ a b e, ∃ lo hi : Nat, ds = [.int .i64 lo, .int .i64 hi, a, b, e] ∧ lo ≤ k ∧ k ≤ hi ∧ hi ≤ l.length ∧ n = hi - lo)
      (fun x => x.1 = .ext 0 ∧ x.2.2 = h ∧ nth 0 x.2.1 = .int .i64 k) l.length ⟨rfl, _, _, _, 0, l.length, rfl, by omega, hk, Nat.le_refl _, rfl⟩ ?_ ?_
  · rintro n ds g ⟨rfl, a, b, e, lo, hi, rfl, hlo, hhi, hle, rfl⟩
    simp only [F87_L0, nth_zero, nth_succ, bs, Option.bind_assoc, dBin_lss]
    refine Wp.dif ?_ ?_
    · intro h0
      have h0 : lo < hi := by have : (lo : Int) < hi := by simpa [-Option.bind_some] using h0
                              omega
      have hw : IntKind.wrap .i64 ((lo : Int) + hi) = ((lo + hi : Nat) : Int) := by
        rw [wrap_i64 (by omega) (by omega)]; omega
      have hw2 : IntKind.wrap .u64 ((lo + hi : Nat) : Int) = ((lo + hi : Nat) : Int) := by
        unfold IntKind.wrap
        simp [-Option.bind_some, IntKind.signed, IntKind.bits, IntKind.min, IntKind.max]
        omega
      have hw3 : (((lo + hi : Nat) : Int)).fdiv (2 ^ (min (Int.toNat 1) IntKind.u64.bits)) = (((lo + hi) / 2 : Nat) : Int) := by
        rw [show (2 : Int) ^ (min (Int.toNat 1) IntKind.u64.bits) = 2 by decide]
        rw [Int.fdiv_eq_ediv_of_nonneg _ (by omega)]
        omega
      have hw4 : IntKind.wrap .i64 (((lo + hi) / 2 : Nat) : Int) = (((lo + hi) / 2 : Nat) : Int) := wrap_i64 (by omega) (by omega)
      have hw5 : IntKind.wrap .i64 ((((lo + hi) / 2 : Nat) : Int) + 1) = (((lo + hi) / 2 + 1 : Nat) : Int) := by
        rw [wrap_i64 (by omega) (by omega)]; omega
      have hm : (lo + hi) / 2 < l.length := by omega
      have hm1 : lo ≤ (lo + hi) / 2 := by omega
      have hm2 : (lo + hi) / 2 < hi := by omega
      generalize (lo + hi) / 2 = mid at *
      have hg : l[mid]? = some l[mid] := List.getElem?_eq_getElem hm
      generalize l[mid] = x at hg
      obtain ⟨q0, i0, i1⟩ := rdT_ix hd mid x hg
      simp only [dBin_add, hw, cv3_134, cv134_3, bs, hw2, dBin_shr, show ¬ (1 : Int) < 0 by omega, if_false, hw3, hw4, i0, i1, talr_ld, hf, dBin_lss]
      by_cases hc : c x < 0
      · have hkm : mid < k := by
          rcases Nat.lt_or_ge mid k with hh | hh
          · exact hh
          · have := h2 mid x hg hh
            omega
        simp only [hc, decide_true, dIf_bool, if_true, bs, hw5, unblk_nrm, nth_zero, nth_succ]
        exact .some (.inl ⟨rfl, hi - (mid + 1), by omega, rfl, _, _, _, mid + 1, hi, rfl, by omega, hhi, hle, rfl⟩)
      · have hkm : k ≤ mid := by
          rcases Nat.lt_or_ge mid k with hh | hh
          · exact absurd (h1 mid x hg hh) hc
          · exact hh
        simp only [hc, decide_false, dIf_bool, Bool.false_eq_true, if_false, bs, unblk_nrm, nth_zero, nth_succ]
        exact .some (.inl ⟨rfl, mid - lo, by omega, rfl, _, _, _, lo, mid, rfl, hlo, hkm, by omega, rfl⟩)
    · intro h0
      have h0 : lo = k := by have : ¬ (lo : Int) < hi := by simpa [-Option.bind_some] using h0
                             omega
      subst h0
      exact .some (.inr ⟨by simp [-Option.bind_some], rfl, rfl, rfl⟩)
  · rintro ⟨ex, ds, g⟩ ⟨q1, q2, q3⟩
    simp only at q1 q2 q3
    subst q1; subst q2
    simp only [unblk_self, toEnd_nrm, nth_zero, q3, bs, dBin_lss]
    by_cases hkl : k < l.length
    · have hg : l[k]? = some l[k] := List.getElem?_eq_getElem hkl
      have hlt : (k : Int) < l.length := by omega
      generalize l[k] = x at hg
      obtain ⟨q0, i0, i1⟩ := rdT_ix hd k x hg
      simp only [hlt, decide_true, gd_bool, if_true, bs, i0, i1, talr_ld, gdW_bool, hf, dBin_eql, dPick_bool, mkRes_two, hg]
      exact .some rfl
    · have hg : l[k]? = none := List.getElem?_eq_none (by omega)
      have hlt : ¬ (k : Int) < l.length := by omega
      simp only [hlt, decide_false, gd_bool, Bool.false_eq_true, if_false, bs, gdW_bool, dPick_bool, mkRes_two, hg]
      exact .some rfl
theorem s80 (l : List Tal) (d : D) (hst : Int) (rule : Str) (h : Hp) (hd : RdT h l d) (hl : l.length ≤ 1000000)
   (k : Nat) (hk : k ≤ l.length) (h1 : ∀ i x, l[i]? = some x → i < k → cmpT x ⟨hst, rule, 0⟩ < 0) (h2 : ∀ i x, l[i]? = some x → k ≤ i → 0 ≤ cmpT x ⟨hst, rule, 0⟩) :
   R fn80 [d, .int .i64 hst, .str rule] h = some (.tup [.int .i64 k, .bool (match l[k]? with | some x => decide (cmpT x ⟨hst, rule, 0⟩ = 0) | none => false)], h) := by
  have hb : dBuild tab ty106 [0, 1] [.int .i64 hst, .str rule] = some (.agg (talr ⟨hst, rule, 0⟩)) := id rfl
  rw [e80]
  simp only [F80, bs, hb, Option.bind_assoc]
  rw [s87 l d ⟨hst, rule, 0⟩ (.fn (.func fn88) [] []) (fun x => cmpT x ⟨hst, rule, 0⟩) h hd hl (fun x => by rw [callV_some]; exact s88 x _ h) k hk h1 h2]
  rfl
theorem bL_irr : ∀ a : Str, Op.bytesLess a a = false
  | [] => rfl
  | x :: a => by simp [-Option.bind_some, Op.bytesLess, bL_irr a]
theorem bL_tr : ∀ {a b c : Str}, Op.bytesLess a b = true → Op.bytesLess b c = true → Op.bytesLess a c = true
  | _, [], _, h, _ => by cases ‹Str› <;> simp [-Option.bind_some, Op.bytesLess] at h
  | _, _ :: _, [], _, h => by simp [-Option.bind_some, Op.bytesLess] at h
  | [], _ :: _, _ :: _, _, _ => rfl
  | x :: a, y :: b, z :: c, h, k => by
    simp only [Op.bytesLess, Bool.or_eq_true, decide_eq_true_eq, Bool.and_eq_true, beq_iff_eq] at h k ⊢
    rcases h with h | ⟨rfl, h⟩
    · rcases k with k | ⟨rfl, k⟩
      · exact .inl (UInt8.lt_trans h k)
      · exact .inl h
    · rcases k with k | ⟨rfl, k⟩
      · exact .inl k
      · exact .inr ⟨rfl, bL_tr h k⟩
theorem bL_tot : ∀ {a b : Str}, Op.bytesLess a b = false → a ≠ b → Op.bytesLess b a = true
  | [], [], _, h => absurd rfl h
  | [], _ :: _, h, _ => by simp [-Option.bind_some, Op.bytesLess] at h
  | _ :: _, [], _, _ => rfl
  | x :: a, y :: b, h, k => by
    simp only [Op.bytesLess, Bool.or_eq_false_iff, decide_eq_false_iff_not, Bool.and_eq_false_iff, beq_eq_false_iff_ne] at h
    simp only [Op.bytesLess, Bool.or_eq_true, decide_eq_true_eq, Bool.and_eq_true, beq_iff_eq]
    by_cases hxy : x = y
    · subst hxy
      refine .inr ⟨rfl, bL_tot (h.2.resolve_left fun hh => hh rfl) fun hh => k (by rw [hh])⟩
    · left
      have h1 := mt UInt8.lt_iff_toNat_lt.2 h.1
      have h2 : x.toNat ≠ y.toNat := fun hh => hxy (UInt8.toNat_inj.1 hh)
      exact UInt8.lt_iff_toNat_lt.2 (by omega)
/-- The order of tallies. -/
def kl (a b : Tal) : Prop := a.h < b.h ∨ (a.h = b.h ∧ Op.bytesLess a.r b.r = true)
theorem cmpT_lt (a b : Tal) : cmpT a b < 0 ↔ kl a b := by
  unfold cmpT orI orI orI cmpI cmpS kl
  by_cases h1 : a.h < b.h
  · simp [-Option.bind_some, h1]
  · by_cases h2 : b.h < a.h
    · have h3 : ¬ a.h = b.h := by omega
      simp [-Option.bind_some, h1, h2, h3]
    · have h3 : a.h = b.h := by omega
      cases h4 : Op.bytesLess a.r b.r
      · by_cases h5 : a.r = b.r <;> simp [-Option.bind_some, h3, h5]
      · simp [-Option.bind_some, h3]
theorem cmpT_eq (a b : Tal) : cmpT a b = 0 ↔ a.h = b.h ∧ a.r = b.r := by
  unfold cmpT orI orI orI cmpI cmpS
  by_cases h1 : a.h < b.h
  · have h3 : ¬ a.h = b.h := by omega
    simp [-Option.bind_some, h1, h3]
  · by_cases h2 : b.h < a.h
    · have h3 : ¬ a.h = b.h := by omega
      simp [-Option.bind_some, h1, h2, h3]
    · have h3 : a.h = b.h := by omega
      cases h4 : Op.bytesLess a.r b.r
      · by_cases h5 : a.r = b.r <;> simp [-Option.bind_some, h3, h5]
      · have h5 : ¬ a.r = b.r := fun hh => by rw [hh, bL_irr] at h4; cases h4
        simp [-Option.bind_some, h3, h5]
theorem kl_tr {a b c : Tal} (h : kl a b) (k : kl b c) : kl a c := by
  unfold kl at *
  rcases h with h | ⟨h, h'⟩ <;> rcases k with k | ⟨k, k'⟩
  · left; omega
  · left; omega
  · left; omega
  · exact .inr ⟨by omega, bL_tr h' k'⟩
theorem kl_tot {a b : Tal} (h : ¬ kl a b) (k : ¬ (a.h = b.h ∧ a.r = b.r)) : kl b a := by
  unfold kl at *
  by_cases h1 : a.h = b.h
  · right
    refine ⟨h1.symm, bL_tot ?_ fun hh => k ⟨h1, hh⟩⟩
    cases h2 : Op.bytesLess a.r b.r
    · rfl
    · exact absurd (.inr ⟨h1, h2⟩) h
  · left
    have : ¬ a.h < b.h := fun hh => h (.inl hh)
    omega
def TAsc (l : List Tal) : Prop := l.Pairwise kl
/-- Where a key stands, or would. -/
def kT (key : Tal) : List Tal → Nat
  | [] => 0
  | x :: r => if cmpT x key < 0 then kT key r + 1 else 0
theorem kT_le (key : Tal) : ∀ l, kT key l ≤ l.length
  | [] => Nat.le_refl _
  | x :: r => by
    unfold kT
    split
    · have := kT_le key r; simp [-Option.bind_some]; omega
    · simp [-Option.bind_some]
theorem kT_lt (key : Tal) : ∀ (l : List Tal) (i : Nat) (x : Tal), l[i]? = some x → i < kT key l → cmpT x key < 0
  | y :: r, 0, x, hx, hi => by
    unfold kT at hi
    simp [-Option.bind_some] at hx
    subst hx
    split at hi
    · assumption
    · omega
  | y :: r, i + 1, x, hx, hi => by
    unfold kT at hi
    simp [-Option.bind_some] at hx
    split at hi
    · exact kT_lt key r i x hx (by omega)
    · omega
theorem kT_ge (key : Tal) : ∀ (l : List Tal), TAsc l → ∀ (i : Nat) (x : Tal), l[i]? = some x → kT key l ≤ i → 0 ≤ cmpT x key
  | y :: r, hs, i, x, hx, hi => by
    unfold kT at hi
    have hs' := List.pairwise_cons.1 hs
    split at hi
    · cases i with
      | zero => omega
      | succ i => exact kT_ge key r hs'.2 i x (by simpa [-Option.bind_some] using hx) (by omega)
    · rename_i hc
      rcases Int.lt_or_le (cmpT x key) 0 with h1 | h1
      · exfalso
        cases i with
        | zero => simp [-Option.bind_some] at hx; subst hx; exact hc h1
        | succ i =>
          have hx' : r[i]? = some x := by simpa [-Option.bind_some] using hx
          exact hc ((cmpT_lt _ _).2 (kl_tr (hs'.1 x (List.mem_of_getElem? hx')) ((cmpT_lt _ _).1 h1)))
      · exact h1
/-- The tallies with some lines more. -/
def addK (l : List Tal) (hst : Int) (rule : Str) (n : Int) (k : Nat) : List Tal := match l[k]? with
  | some x => if cmpT x ⟨hst, rule, 0⟩ = 0 then l.set k ⟨x.h, x.r, IntKind.wrap .i64 (x.n + n)⟩ else l.take k ++ [⟨hst, rule, IntKind.wrap .i64 (0 + n)⟩] ++ l.drop k
  | none => l.take k ++ [⟨hst, rule, IntKind.wrap .i64 (0 + n)⟩] ++ l.drop k
def addT (l : List Tal) (hst : Int) (rule : Str) (n : Int) : List Tal := if n < 1 then l else addK l hst rule n (kT ⟨hst, rule, 0⟩ l)
theorem u79 (l : List Tal) (d : D) (h : Hp) (hd : SlOf 3 talr l d) (hl : l.length ≤ 1000000) : ∃ d' h', R fn79 [d] h = some (d', h') ∧ h.length ≤ h'.length ∧ (∀ q, q < h.length → h'[q]? = h[q]?) ∧
    ((l = [] ∧ (d' = .nils ∨ d' = .sl 3 true [])) ∨ ∃ ob, h.length ≤ ob ∧ d' = .msl 3 ob 0 l.length ∧ h'[ob]? = some (.row ty106 3 (l.map talr))) := by
  rw [e79]
  rcases hd with ⟨rfl, rfl⟩ | ⟨b, rfl⟩
  · exact ⟨.nils, h, by
      have hne : dBin tab .eql ty58 .nils .nils = some (.bool true) := id rfl
      simp [-Option.bind_some, F79, hne], Nat.le_refl _, fun _ _ => rfl, .inl ⟨rfl, .inl rfl⟩⟩
  · obtain ⟨x', h', e, hl', hq, ho⟩ := app_full (T := tab) (t := ty58) (i := ti58) (j := ti106) (h := h) (id rfl) (id rfl) (id rfl) (by decide) (y := .sl 3 b (l.map talr)) (rowsOf_sl _ _ _ _) (lim_ok (by have : ti106.by_ = 32 := rfl; rw [this, List.length_map]; omega) (by rw [List.length_map]; omega))
    have e' : dAppend tab h ty58 ty58 (.sl 3 true []) (.sl 3 b (l.map talr)) = some (x', h') := e
    have hne : dBin tab .eql ty58 (.sl 3 b (l.map talr)) .nils = some (.bool false) := id rfl
    refine ⟨x', h', ?_, hl', hq, ?_⟩
    · simp only [F79, bs, hne, dIf_bool, Bool.false_eq_true, if_false, bs58_0, e', mkRes_one]
    · rcases ho with ⟨rfl, hn⟩ | ⟨rfl, hn⟩ | ⟨ob, h1, rfl, h2⟩
      · have : l = [] := by simpa [-Option.bind_some] using hn
        exact .inl ⟨this, .inr rfl⟩
      · have : l = [] := by simpa [-Option.bind_some] using hn
        exact .inl ⟨this, .inl rfl⟩
      · exact .inr ⟨ob, h1, by rw [List.length_map]; rfl, h2⟩
theorem lim106 {n : Nat} (hn : n ≤ 1000001) : lim n ti106.by_ = true := lim_ok (by have : ti106.by_ = 32 := rfl; rw [this]; omega) (by omega)
theorem addT_len (l : List Tal) (hst : Int) (rule : Str) (n : Int) : (addT l hst rule n).length ≤ l.length + 1 := by
  unfold addT
  split
  · omega
  · have hk := kT_le ⟨hst, rule, 0⟩ l
    generalize kT ⟨hst, rule, 0⟩ l = k at hk
    unfold addK
    split
    · split
      · simp [-Option.bind_some]
      · simp [-Option.bind_some]; omega
    · simp [-Option.bind_some]; omega
theorem addT_asc {l : List Tal} (hs : TAsc l) (hst : Int) (rule : Str) (n : Int) : TAsc (addT l hst rule n) := by
  unfold addT
  split
  · exact hs
  · have hk := kT_le ⟨hst, rule, 0⟩ l
    have h1 := kT_lt ⟨hst, rule, 0⟩ l
    have h2 := kT_ge ⟨hst, rule, 0⟩ l hs
    generalize kT ⟨hst, rule, 0⟩ l = k at hk h1 h2
    have hins : (∀ x, l[k]? = some x → ¬ cmpT x ⟨hst, rule, 0⟩ = 0) → TAsc (l.take k ++ [⟨hst, rule, IntKind.wrap .i64 (0 + n)⟩] ++ l.drop k) := fun hne => by
      have hpre : ∀ x ∈ l.take k, kl x ⟨hst, rule, 0⟩ := fun x hx => by
        obtain ⟨i, hi⟩ := List.mem_iff_getElem?.1 hx
        rw [List.getElem?_take] at hi
        split at hi
        · exact (cmpT_lt _ _).1 (h1 i x hi (by assumption))
        · cases hi
      have hpost : ∀ x ∈ l.drop k, kl ⟨hst, rule, 0⟩ x := fun x hx => by
        obtain ⟨i, hi⟩ := List.mem_iff_getElem?.1 hx
        rw [List.getElem?_drop] at hi
        have hge := h2 (k + i) x hi (by omega)
        refine kl_tot (fun hh => ?_) fun hh => ?_
        · have := (cmpT_lt _ _).2 hh; omega
        · have h0 := (cmpT_eq x ⟨hst, rule, 0⟩).2 hh
          cases i with
          | zero => exact hne x hi h0
          | succ i =>
            have hlt := (List.getElem?_eq_some_iff.1 hi).1
            have hg : l[k]? = some (l[k]'(by omega)) := List.getElem?_eq_getElem (by omega)
            generalize l[k]'(by omega) = y at hg
            have hky : kl y x := by
              have := List.pairwise_iff_getElem.1 hs k (k + (i + 1)) (by omega) hlt (by omega)
              rw [List.getElem?_eq_getElem (by omega)] at hg hi
              injection hg with hg
              injection hi with hi
              rwa [hg, hi] at this
            have := h2 k y hg (Nat.le_refl _)
            have h3 : cmpT y ⟨hst, rule, 0⟩ < 0 := by
              rw [cmpT_lt]
              unfold kl at hky ⊢
              rw [hh.1, hh.2] at hky
              exact hky
            omega
      unfold TAsc
      rw [List.append_assoc, List.pairwise_append]
      refine ⟨hs.sublist (List.take_sublist _ _), ?_, fun a ha b hb => ?_⟩
      · rw [List.singleton_append, List.pairwise_cons]
        exact ⟨fun b hb => hpost b hb, hs.sublist (List.drop_sublist _ _)⟩
      · rw [List.singleton_append, List.mem_cons] at hb
        rcases hb with rfl | hb
        · exact hpre a ha
        · exact kl_tr (hpre a ha) (hpost b hb)
    unfold addK
    cases hg : l[k]? with
    | none => exact hins fun x hx => by rw [hg] at hx; cases hx
    | some y =>
      simp only
      split
      · have hkl := (List.getElem?_eq_some_iff.1 hg).1
        unfold TAsc at hs ⊢
        rw [List.pairwise_iff_getElem] at hs ⊢
        have hval : l[k] = y := (List.getElem?_eq_some_iff.1 hg).2
        intro i j hi hj hij
        have q := hs i j (by simpa [-Option.bind_some] using hi) (by simpa [-Option.bind_some] using hj) hij
        simp only [List.getElem_set]
        by_cases hki : k = i
        · subst hki
          have hkj : ¬ k = j := by omega
          simp only [if_true, hkj, if_false]
          rw [hval] at q
          exact q
        · by_cases hkj : k = j
          · subst hkj
            simp only [hki, if_false, if_true]
            rw [hval] at q
            exact q
          · simp only [hki, hkj, if_false]
            exact q
      · rename_i hne
        exact hins fun x hx => by
          rw [hg] at hx
          injection hx with hx
          subst hx
          exact hne
/-- All of the first occur in the second, in order. -/
def gr : List Ev → List Ev → Bool
  | [], _ => true
  | _ :: _, [] => false
  | x :: a, y :: b => if sameE x y = true then gr a b else gr (x :: a) b
/-- A sum over tallies. -/
def sm (f : Tal → Int) : List Tal → Int
  | [] => 0
  | t :: r => f t + sm f r
/-- The order of marks. -/
def ml (a b : Mrk) : Prop := a.h < b.h ∨ (a.h = b.h ∧ a.f < b.f)
theorem cmpM_lt (a b : Mrk) : cmpM a b < 0 ↔ ml a b := by
  unfold cmpM orI orI orI cmpI ml
  by_cases h1 : a.h < b.h
  · simp [-Option.bind_some, h1]
  · by_cases h2 : b.h < a.h
    · have h3 : ¬ a.h = b.h := by omega
      simp [-Option.bind_some, h1, h2, h3]
    · have h3 : a.h = b.h := by omega
      by_cases h4 : a.f < b.f
      · simp [-Option.bind_some, h3, h4]
      · by_cases h5 : b.f < a.f <;> simp [-Option.bind_some, h3, h4, h5]
theorem cmpM_eq (a b : Mrk) : cmpM a b = 0 ↔ a.h = b.h ∧ a.f = b.f := by
  unfold cmpM orI orI orI cmpI
  by_cases h1 : a.h < b.h
  · have h3 : ¬ a.h = b.h := by omega
    simp [-Option.bind_some, h1, h3]
  · by_cases h2 : b.h < a.h
    · have h3 : ¬ a.h = b.h := by omega
      simp [-Option.bind_some, h1, h2, h3]
    · have h3 : a.h = b.h := by omega
      by_cases h4 : a.f < b.f
      · have : ¬ a.f = b.f := by omega
        simp [-Option.bind_some, h3, h4, this]
      · by_cases h5 : b.f < a.f
        · have : ¬ a.f = b.f := by omega
          simp [-Option.bind_some, h3, h4, h5, this]
        · have : a.f = b.f := by omega
          simp [-Option.bind_some, h3, this]
def MAsc (l : List Mrk) : Prop := l.Pairwise ml
/-- Where a mark stands, or would. -/
def kM (key : Mrk) : List Mrk → Nat
  | [] => 0
  | x :: r => if cmpM x key < 0 then kM key r + 1 else 0
theorem kM_le (key : Mrk) : ∀ l, kM key l ≤ l.length
  | [] => Nat.le_refl _
  | x :: r => by
    unfold kM
    split
    · have := kM_le key r; simp [-Option.bind_some]; omega
    · simp [-Option.bind_some]
theorem kM_lt (key : Mrk) : ∀ (l : List Mrk) (i : Nat) (x : Mrk), l[i]? = some x → i < kM key l → cmpM x key < 0
  | y :: r, 0, x, hx, hi => by
    unfold kM at hi
    simp [-Option.bind_some] at hx
    subst hx
    split at hi
    · assumption
    · omega
  | y :: r, i + 1, x, hx, hi => by
    unfold kM at hi
    simp [-Option.bind_some] at hx
    split at hi
    · exact kM_lt key r i x hx (by omega)
    · omega
theorem kM_at (key : Mrk) : ∀ (l : List Mrk) (x : Mrk), l[kM key l]? = some x → ¬ cmpM x key < 0
  | y :: r, x, hx => by
    unfold kM at hx
    split at hx
    · exact kM_at key r x (by simpa [-Option.bind_some] using hx)
    · rename_i hc
      simp [-Option.bind_some] at hx
      subst hx
      exact hc
theorem ml_tr {a b c : Mrk} (h : ml a b) (k : ml b c) : ml a c := by
  unfold ml at *
  omega
theorem kM_ge (key : Mrk) : ∀ (l : List Mrk), MAsc l → ∀ (i : Nat) (x : Mrk), l[i]? = some x → kM key l ≤ i → 0 ≤ cmpM x key
  | y :: r, hs, i, x, hx, hi => by
    unfold kM at hi
    have hs' := List.pairwise_cons.1 hs
    split at hi
    · cases i with
      | zero => omega
      | succ i => exact kM_ge key r hs'.2 i x (by simpa [-Option.bind_some] using hx) (by omega)
    · rename_i hc
      rcases Int.lt_or_le (cmpM x key) 0 with h1 | h1
      · exfalso
        cases i with
        | zero => simp [-Option.bind_some] at hx; subst hx; exact hc h1
        | succ i =>
          have hx' : r[i]? = some x := by simpa [-Option.bind_some] using hx
          exact hc ((cmpM_lt _ _).2 (ml_tr (hs'.1 x (List.mem_of_getElem? hx')) ((cmpM_lt _ _).1 h1)))
      · exact h1
def fndM (l : List Mrk) (key : Mrk) : Bool := match l[kM key l]? with
  | some x => decide (cmpM x key = 0)
  | none => false
def markOf (l : List Mrk) (hst fil : Int) : Int := match l[kM ⟨hst, fil, 0⟩ l]? with
  | some x => if cmpM x ⟨hst, fil, 0⟩ = 0 then x.o else 0
  | none => 0
def countT (l : List Tal) (hst : Int) (rule : Str) : Int := match l[kT ⟨hst, rule, 0⟩ l]? with
  | some x => if cmpT x ⟨hst, rule, 0⟩ = 0 then x.n else 0
  | none => 0
theorem s1078 (l : List Tal) (d dm : D) (hst : Int) (rule : Str) (h : Hp) (hd : SlOf 3 talr l d) (hl : l.length ≤ 1000000) (hs : TAsc l) : R fn1078 [.agg [dm, d], .int .i64 hst, .str rule] h = some (.int .i64 (countT l hst rule), h) := by
  have hk := kT_le ⟨hst, rule, 0⟩ l
  have h80 := s80 l d hst rule h (.inl hd) hl (kT ⟨hst, rule, 0⟩ l) hk (kT_lt _ l) (kT_ge _ l hs)
  rw [e1078]
  unfold countT
  generalize kT ⟨hst, rule, 0⟩ l = k at hk h80
  simp only [F1078, pBoxF_agg, bs, fa1009_1, ld58, h80, dExtract_tup, List.getElem?_cons_zero, List.getElem?_cons_succ]
  cases hg : l[k]? with
  | none => simp [-Option.bind_some]
  | some x =>
    have hix : dIndexAddr tab ty58 d (.int .i64 (k : Nat)) = some (.fptr (talr x)) := by rw [ixs58 hd]; simp [-Option.bind_some, hg]
    by_cases hc : cmpT x ⟨hst, rule, 0⟩ = 0
    · simp [-Option.bind_some, hc, hix, talr]
    · simp [-Option.bind_some, hc]
theorem mrkr_frz (n0 : Nat) (h : Hp) (n : Nat) (p : Mrk) : ∀ d ∈ mrkr p, frz n0 h n d = d := by simp [-Option.bind_some, mrkr]
theorem mrkr_ok (n : Nat) (p : Mrk) : ∀ d ∈ mrkr p, Ok n d := by
  intro d hd
  simp [-Option.bind_some, mrkr] at hd
  rcases hd with rfl | rfl | rfl <;> constructor
theorem sorted_ext {α : Type} {lt : α → α → Prop} (irr : ∀ a, ¬ lt a a) (tr : ∀ a b c, lt a b → lt b c → lt a c) : ∀ {l r : List α}, l.Pairwise lt → r.Pairwise lt → (∀ x, x ∈ l ↔ x ∈ r) → l = r
  | [], [], _, _, _ => rfl
  | [], y :: r, _, _, h => by have := (h y).2 (by simp [-Option.bind_some]); cases this
  | x :: l, [], _, _, h => by have := (h x).1 (by simp [-Option.bind_some]); cases this
  | x :: l, y :: r, hl, hr, h => by
    have hl' := List.pairwise_cons.1 hl
    have hr' := List.pairwise_cons.1 hr
    have hxy : x = y := by
      rcases List.mem_cons.1 ((h x).1 (by simp [-Option.bind_some])) with h1 | h1
      · exact h1
      · rcases List.mem_cons.1 ((h y).2 (by simp [-Option.bind_some])) with h2 | h2
        · exact h2.symm
        · exact absurd (tr _ _ _ (hl'.1 y h2) (hr'.1 x h1)) (irr _)
    subst hxy
    rw [sorted_ext irr tr hl'.2 hr'.2 fun z => ⟨fun hz => ?_, fun hz => ?_⟩]
    · rcases List.mem_cons.1 ((h z).1 (by simp [-Option.bind_some, hz])) with h1 | h1
      · subst h1; exact absurd (hl'.1 z hz) (irr _)
      · exact h1
    · rcases List.mem_cons.1 ((h z).2 (by simp [-Option.bind_some, hz])) with h1 | h1
      · subst h1; exact absurd (hr'.1 z hz) (irr _)
      · exact h1
theorem ml_irr (a : Mrk) : ¬ ml a a := by unfold ml; omega
theorem kl_irr (a : Tal) : ¬ kl a a := by
  unfold kl
  rintro (h | ⟨_, h⟩)
  · omega
  · rw [bL_irr] at h; cases h
theorem masc_ext {l r : List Mrk} (hl : MAsc l) (hr : MAsc r) (h : ∀ x, x ∈ l ↔ x ∈ r) : l = r := sorted_ext ml_irr (fun _ _ _ => ml_tr) hl hr h
theorem tasc_ext {l r : List Tal} (hl : TAsc l) (hr : TAsc r) (h : ∀ x, x ∈ l ↔ x ∈ r) : l = r := sorted_ext kl_irr (fun _ _ _ => kl_tr) hl hr h
/-- The marks with the mark of a file set. -/
def setM (l : List Mrk) (m : Mrk) : List Mrk := if fndM l m = true then l.set (kM m l) m else l.take (kM m l) ++ [m] ++ l.drop (kM m l)
theorem kM_key (a b : Mrk) (h1 : a.h = b.h) (h2 : a.f = b.f) : ∀ l, kM a l = kM b l
  | [] => rfl
  | x :: r => by
    have : cmpM x a = cmpM x b := by unfold cmpM; rw [h1, h2]
    unfold kM
    rw [this, kM_key a b h1 h2 r]
theorem cmpM_key (x a b : Mrk) (h1 : a.h = b.h) (h2 : a.f = b.f) : cmpM x a = cmpM x b := by unfold cmpM; rw [h1, h2]
/-- In order, the same key is the same mark. -/
theorem masc_key : ∀ {l : List Mrk}, MAsc l → ∀ {x y : Mrk}, x ∈ l → y ∈ l → x.h = y.h → x.f = y.f → x = y
  | z :: r, h, x, y, hx, hy, h1, h2 => by
    have h' := List.pairwise_cons.1 h
    rcases List.mem_cons.1 hx with e1 | k1
    · rcases List.mem_cons.1 hy with e2 | k2
      · rw [e1, e2]
      · have := h'.1 y k2
        rw [← e1] at this
        unfold ml at this; omega
    · rcases List.mem_cons.1 hy with e2 | k2
      · have := h'.1 x k1
        rw [← e2] at this
        unfold ml at this; omega
      · exact masc_key h'.2 k1 k2 h1 h2
theorem tasc_key : ∀ {l : List Tal}, TAsc l → ∀ {x y : Tal}, x ∈ l → y ∈ l → x.h = y.h → x.r = y.r → x = y
  | z :: r, h, x, y, hx, hy, h1, h2 => by
    have h' := List.pairwise_cons.1 h
    have no : ∀ a b : Tal, kl a b → a.h = b.h → a.r = b.r → False := fun a b hk e1 e2 => by
      have := (cmpT_lt a b).2 hk
      have := (cmpT_eq a b).2 ⟨e1, e2⟩
      omega
    rcases List.mem_cons.1 hx with e1 | k1
    · rcases List.mem_cons.1 hy with e2 | k2
      · rw [e1, e2]
      · have := h'.1 y k2
        rw [← e1] at this
        exact (no _ _ this h1 h2).elim
    · rcases List.mem_cons.1 hy with e2 | k2
      · have := h'.1 x k1
        rw [← e2] at this
        exact (no _ _ this h1.symm h2.symm).elim
      · exact tasc_key h'.2 k1 k2 h1 h2
/-- Parts of an ordered list around a key. -/
theorem kM_take (m : Mrk) (l : List Mrk) : ∀ x ∈ l.take (kM m l), ml x m := by
  intro x hx
  obtain ⟨i, hi⟩ := List.getElem?_of_mem hx
  have hlt := (List.getElem?_eq_some_iff.1 hi).1
  rw [List.length_take] at hlt
  rw [List.getElem?_take, if_pos (by omega)] at hi
  exact (cmpM_lt _ _).1 (kM_lt m l i x hi (by omega))
theorem kM_drop (m : Mrk) (l : List Mrk) (hs : MAsc l) : ∀ x ∈ l.drop (kM m l), ¬ ml x m := by
  intro x hx
  obtain ⟨i, hi⟩ := List.getElem?_of_mem hx
  rw [List.getElem?_drop] at hi
  have := kM_ge m l hs _ x hi (by omega)
  intro h
  have := (cmpM_lt _ _).2 h
  omega
theorem ml_tot {a b : Mrk} (h : ¬ ml a b) (k : ¬ (a.h = b.h ∧ a.f = b.f)) : ml b a := by
  unfold ml at *
  omega
theorem fndM_iff (l : List Mrk) (m : Mrk) (hs : MAsc l) : fndM l m = true ↔ ∃ x ∈ l, x.h = m.h ∧ x.f = m.f := by
  unfold fndM
  constructor
  · intro h
    cases hg : l[kM m l]? with
    | none => rw [hg] at h; cases h
    | some x =>
      rw [hg] at h
      have h : cmpM x m = 0 := by simpa [-Option.bind_some] using h
      exact ⟨x, List.mem_of_getElem? hg, (cmpM_eq _ _).1 h⟩
  · rintro ⟨x, hx, h1, h2⟩
    have hx' : x ∈ l.drop (kM m l) := by
      rw [← List.take_append_drop (kM m l) l] at hx
      rcases List.mem_append.1 hx with h | h
      · have := kM_take m l x h; unfold ml at this; omega
      · exact h
    obtain ⟨i, hi⟩ := List.getElem?_of_mem hx'
    rw [List.getElem?_drop] at hi
    cases hg : l[kM m l]? with
    | none =>
      have := List.getElem?_eq_none_iff.1 hg
      have := (List.getElem?_eq_some_iff.1 hi).1
      omega
    | some y =>
      have hc : cmpM y m = 0 := by
        have hy := kM_at m l y hg
        rcases Nat.eq_zero_or_pos i with rfl | hi0
        · rw [Nat.add_zero, hg] at hi
          injection hi with hi
          subst hi
          exact (cmpM_eq _ _).2 ⟨h1, h2⟩
        · exfalso
          have hlt : ml y x := by
            obtain ⟨g1, g2⟩ := List.getElem?_eq_some_iff.1 hg
            obtain ⟨g3, g4⟩ := List.getElem?_eq_some_iff.1 hi
            have := List.pairwise_iff_getElem.1 hs _ _ g1 g3 (by omega)
            rw [g2, g4] at this
            exact this
          exact hy ((cmpM_lt _ _).2 (by unfold ml at hlt ⊢; omega))
      simp [-Option.bind_some, hc]
theorem setM_mem (l : List Mrk) (m : Mrk) (hs : MAsc l) (x : Mrk) : x ∈ setM l m ↔ x = m ∨ (x ∈ l ∧ ¬ (x.h = m.h ∧ x.f = m.f)) := by
  unfold setM
  by_cases hf : fndM l m = true
  · rw [if_pos hf]
    unfold fndM at hf
    cases hg : l[kM m l]? with
    | none => rw [hg] at hf; cases hf
    | some y =>
      rw [hg] at hf
      have hy : cmpM y m = 0 := by simpa [-Option.bind_some] using hf
      have hy := (cmpM_eq _ _).1 hy
      have hk : kM m l < l.length := (List.getElem?_eq_some_iff.1 hg).1
      constructor
      · intro hx
        obtain ⟨i, hi⟩ := List.getElem?_of_mem hx
        rw [List.getElem?_set] at hi
        split at hi
        · rename_i heq
          left
          subst heq
          simp [-Option.bind_some, hk] at hi
          exact hi.symm
        · rename_i hne
          by_cases hkey : x.h = m.h ∧ x.f = m.f
          · exfalso
            obtain ⟨g1, g2⟩ := List.getElem?_eq_some_iff.1 hg
            obtain ⟨g3, g4⟩ := List.getElem?_eq_some_iff.1 hi
            rcases Nat.lt_or_gt_of_ne hne with hlt | hlt
            · have := List.pairwise_iff_getElem.1 hs _ _ g1 g3 hlt
              rw [g2, g4] at this; unfold ml at this; omega
            · have := List.pairwise_iff_getElem.1 hs _ _ g3 g1 hlt
              rw [g2, g4] at this; unfold ml at this; omega
          · exact .inr ⟨List.mem_of_getElem? hi, hkey⟩
      · rintro (rfl | ⟨hx, hkey⟩)
        · exact List.mem_iff_getElem?.2 ⟨kM x l, by rw [List.getElem?_set_self hk]⟩
        · obtain ⟨i, hi⟩ := List.getElem?_of_mem hx
          refine List.mem_iff_getElem?.2 ⟨i, ?_⟩
          rw [List.getElem?_set_ne]
          · exact hi
          · rintro rfl
            rw [hg] at hi
            injection hi with hi
            subst hi
            exact hkey hy
  · rw [if_neg hf]
    have hn : ∀ y ∈ l, ¬ (y.h = m.h ∧ y.f = m.f) := fun y hy hk => hf ((fndM_iff l m hs).2 ⟨y, hy, hk⟩)
    constructor
    · intro hx
      simp only [List.mem_append, List.mem_singleton] at hx
      rcases hx with (hx | hx) | hx
      · have := List.mem_of_mem_take hx
        exact .inr ⟨this, hn x this⟩
      · exact .inl hx
      · have := List.mem_of_mem_drop hx
        exact .inr ⟨this, hn x this⟩
    · rintro (rfl | ⟨hx, _⟩)
      · simp [-Option.bind_some]
      · rw [← List.take_append_drop (kM m l) l] at hx
        rcases List.mem_append.1 hx with h | h
        · simp [-Option.bind_some, h]
        · simp [-Option.bind_some, h]
theorem setM_asc (l : List Mrk) (m : Mrk) (hs : MAsc l) : MAsc (setM l m) := by
  unfold setM
  by_cases hf : fndM l m = true
  · rw [if_pos hf]
    unfold fndM at hf
    cases hg : l[kM m l]? with
    | none => rw [hg] at hf; cases hf
    | some y =>
      rw [hg] at hf
      have hy : cmpM y m = 0 := by simpa [-Option.bind_some] using hf
      have hy := (cmpM_eq _ _).1 hy
      unfold MAsc at *
      rw [List.pairwise_iff_getElem] at hs ⊢
      obtain ⟨g1, g2⟩ := List.getElem?_eq_some_iff.1 hg
      intro i j hi hj hij
      simp only [List.length_set] at hi hj
      have := hs i j hi hj hij
      simp only [List.getElem_set]
      split <;> split
      · omega
      · rename_i h1 h2; subst h1; rw [g2] at this; unfold ml at this ⊢; omega
      · rename_i h1 h2; subst h2; rw [g2] at this; unfold ml at this ⊢; omega
      · exact this
  · rw [if_neg hf]
    unfold MAsc at *
    have h1 := kM_take m l
    have h2 := kM_drop m l hs
    have hn : ∀ y ∈ l, ¬ (y.h = m.h ∧ y.f = m.f) := fun y hy hk => hf ((fndM_iff l m hs).2 ⟨y, hy, hk⟩)
    have h3 : ∀ x ∈ l.drop (kM m l), ml m x := fun x hx => ml_tot (h2 x hx) (hn x (List.mem_of_mem_drop hx))
    rw [List.append_assoc, List.pairwise_append]
    refine ⟨hs.sublist (List.take_sublist _ _), List.pairwise_cons.2 ⟨h3, hs.sublist (List.drop_sublist _ _)⟩, fun a ha b hb => ?_⟩
    rcases List.mem_cons.1 hb with rfl | hb
    · exact h1 a ha
    · exact ml_tr (h1 a ha) (h3 b hb)
theorem setM_len (l : List Mrk) (m : Mrk) : (setM l m).length ≤ l.length + 1 := by
  have := kM_le m l
  unfold setM
  split <;> simp [-Option.bind_some] <;> omega
theorem markOf_eq (l : List Mrk) (hs : MAsc l) (h f : Int) : (∃ x ∈ l, x.h = h ∧ x.f = f ∧ markOf l h f = x.o) ∨ ((∀ x ∈ l, ¬ (x.h = h ∧ x.f = f)) ∧ markOf l h f = 0) := by
  by_cases hf : fndM l ⟨h, f, 0⟩ = true
  · left
    unfold fndM at hf
    unfold markOf
    cases hg : l[kM ⟨h, f, 0⟩ l]? with
    | none => rw [hg] at hf; cases hf
    | some y =>
      rw [hg] at hf
      have hy : cmpM y ⟨h, f, 0⟩ = 0 := by simpa [-Option.bind_some] using hf
      have hk := (cmpM_eq _ _).1 hy
      exact ⟨y, List.mem_of_getElem? hg, hk.1, hk.2, by simp [-Option.bind_some, hy]⟩
  · right
    refine ⟨fun x hx hk => hf ((fndM_iff l _ hs).2 ⟨x, hx, hk⟩), ?_⟩
    unfold fndM at hf
    unfold markOf
    cases hg : l[kM ⟨h, f, 0⟩ l]? with
    | none => rfl
    | some y =>
      rw [hg] at hf
      have hy : ¬ cmpM y ⟨h, f, 0⟩ = 0 := by simpa [-Option.bind_some] using hf
      simp [-Option.bind_some, hy]
theorem markOf_setM (l : List Mrk) (hs : MAsc l) (m : Mrk) (h f : Int) : markOf (setM l m) h f = if m.h = h ∧ m.f = f then m.o else markOf l h f := by
  have ha := setM_asc l m hs
  rcases markOf_eq _ ha h f with ⟨x, hx, h1, h2, h3⟩ | ⟨h1, h2⟩
  · rw [h3]
    rcases (setM_mem l m hs x).1 hx with rfl | ⟨hx, hn⟩
    · rw [if_pos ⟨h1, h2⟩]
    · rw [if_neg (by rw [← h1, ← h2]; exact fun hh => hn ⟨hh.1.symm, hh.2.symm⟩)]
      rcases markOf_eq l hs h f with ⟨y, hy, k1, k2, k3⟩ | ⟨k1, k2⟩
      · rw [k3, masc_key hs hx hy (by omega) (by omega)]
      · exact absurd ⟨h1, h2⟩ (k1 x hx)
  · rw [h2]
    have hm : ¬ (m.h = h ∧ m.f = f) := h1 m ((setM_mem l m hs m).2 (.inl rfl))
    rw [if_neg hm]
    rcases markOf_eq l hs h f with ⟨y, hy, k1, k2, k3⟩ | ⟨k1, k2⟩
    · exact absurd ⟨k1, k2⟩ (h1 y ((setM_mem l m hs y).2 (.inr ⟨hy, fun hh => hm ⟨by omega, by omega⟩⟩)))
    · exact k2.symm
theorem it_good {hst fil fr : Int} {i : It} (hi : ItOK hst fil fr i) (h0 : 0 ≤ hst) (h9 : hst ≤ 999) (f0 : 0 ≤ fil) (f9 : fil ≤ 1000) (r0 : 0 ≤ fr) (r9 : fr ≤ 50000) : (i.r = [] ∧ EvGood i.e) ∨ SkGood i := by
  have c1 := chain_le _ _ _ hi.ch
  have hn3 := hi.n3
  have hn1 := hi.n1
  have pl : PlOK i.e := ⟨by rw [hi.host]; exact h0, by rw [hi.host]; exact h9, by rw [hi.file]; exact f0, by rw [hi.file]; omega, by rw [hi.fr]; omega, by rw [hi.fr]; omega, by omega⟩
  have ch : chain i.e.a2 i.e.ls i.e.a3 := by rw [hi.fr]; exact hi.ch
  by_cases hr : i.r = []
  · left
    obtain ⟨e1, e2, e3, e4, e5, e6, e7, e8⟩ := hi.ev hr
    have hfl : i.e.fs.length ≤ 4 := by
      have := e7.1.length_le
      simpa [-Option.bind_some] using this
    exact ⟨hr, pl, e1, e2, e3, e4, hi.wt hr, hn1, by omega, ch, (show ∀ s ∈ lt98_5, s.length ≤ 32 by decide) _ e5, (show ∀ s ∈ lt98_6, s.length ≤ 32 by decide) _ e6, by omega, fn_of e7.1, asc_of e7.1, fun p hp => by have := e7.2 p hp; omega⟩
  · right
    obtain ⟨e1, e2, e3, e4, e5, e6, e7⟩ := hi.sk hr
    exact ⟨hr, (show ∀ s ∈ lt98_4, s.length ≤ 32 by decide) _ e1, pl, hn1, by omega, ch, e2, e3, e4, e5, e6, e7⟩
/-- What an item of a batch that is drawn looks like. -/
structure BIt (hst : Int) (i : It) : Prop where
  host : i.e.a0 = hst
  f5 : 5 ≤ i.e.a1
  f7 : i.e.a1 ≤ 7
  r0 : 0 ≤ i.e.a2
  r9 : i.e.a2 ≤ 50000
  ch : chain i.e.a2 i.e.ls i.e.a3
  n1 : 1 ≤ i.e.ls.length
  n6 : i.e.ls.length ≤ 6
  rule : i.r = [] ∨ i.r ∈ lt98_4
  fs : i.e.fs.length ≤ 4
  good : (i.r = [] ∧ EvGood i.e) ∨ SkGood i
end Go.Proofs.YtpenlmgmofhbpaaDoor
