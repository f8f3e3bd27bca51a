/- Laws, on plain data, about functions that the statement reaches. -/
import Derived.Test.YtlpedofpnbggbaaDoorL2
set_option linter.unusedSimpArgs false
set_option linter.unusedVariables false
set_option linter.unnecessarySimpa false
set_option maxRecDepth 100000
namespace Go.Proofs.YtlpedofpnbggbaaDoor
open Go.Eng Go.Pi
open Option (bind_some)
theorem s1012g (e : Ev) (m : Int) (h : Hp) : R fn1012 [.agg (evr e), .int .i64 m] h = some (.int .i64 (linesE e m), h) := by
  suffices Wp (R fn1012 [.agg (evr e), .int .i64 m] h) (fun p => p = (.int .i64 (linesE e m), h)) by
    obtain ⟨p, h1, rfl⟩ := this
    exact h1
  rw [e1012]
  simp only [F1012, pBoxF_agg, bs, Option.bind_assoc, evr, fa31_4, fa31_2, ld28, ld3, lens28 e.hld, dBin_eql, dBin_gtr]
  by_cases g0 : e.ls.length = 0
  · have g0' : (e.ls.length : Int) = 0 := by omega
    simp only [g0', decide_true, dIf_bool, if_true, mkRes_one]
    exact .some (by simp [-bind_some, linesE, g0])
  by_cases g4 : 40 < e.ls.length
  · have g0' : ¬ (e.ls.length : Int) = 0 := by omega
    have g4' : (40 : Int) < (e.ls.length : Int) := by omega
    simp only [g0', g4', decide_true, decide_false, Bool.false_eq_true, if_false, dIf_bool, if_true, mkRes_one]
    exact .some (by simp [-bind_some, linesE, g0, g4])
  have g0' : ¬ (e.ls.length : Int) = 0 := by omega
  have g4' : ¬ (40 : Int) < (e.ls.length : Int) := by omega
  have hE : linesE e m = lnE e.a3 m e.a2 e.ls := by simp [-bind_some, linesE, g0, g4]
  rw [hE]
  generalize hV : lnE e.a3 m e.a2 e.ls = V
  simp only [g0', g4', decide_false, Bool.false_eq_true, if_false, dIf_bool]
  refine Wp.loop (fun k ds g => g = h ∧ ∃ a b c d f, ∃ at_ : Int, ∃ i : Nat, ds = [a, .int .i64 at_, .int .i64 (i : Int), b, c, d, f] ∧ k + i = e.ls.length ∧ lnE e.a3 m at_ (e.ls.drop i) = V)
      (fun x => x.2.2 = h ∧ ((x.1 = .ext 0 ∧ V = 0) ∨ (x.1 = .ret ∧ nth 0 x.2.1 = .int .i64 V))) e.ls.length ⟨rfl, _, _, _, _, _, _, 0, rfl, rfl, hV⟩ ?_ ?_
  · rintro k ds g ⟨rfl, a, b, c, d, f, at_, i, rfl, hk, hch⟩
    simp only [F1012_L0, nth_zero, nth_succ, bs, Option.bind_assoc, fa31_4, ld28, lens28 e.hld, dBin_lss]
    refine Wp.dif ?_ ?_
    · intro h0
      have h0 : i < e.ls.length := by have : (i : Int) < e.ls.length := by simpa using h0
                                      omega
      have hg : e.ls[i]? = some e.ls[i] := List.getElem?_eq_getElem h0
      have hw : IntKind.wrap .i64 ((i : Int) + 1) = ((i + 1 : Nat) : Int) := by rw [wrap_i64 (by omega) (by omega)]; omega
      have hw4 : IntKind.wrap .i64 ((e.ls.length : Int) - 1) = (e.ls.length : Int) - 1 := wrap_i64 (by omega) (by omega)
      rw [List.drop_eq_getElem_cons h0] at hch
      generalize e.ls[i] = x at hg hch
      have hix : dIndexAddr tab ty28 e.ld (.int .i64 (i : Int)) = some (.fptr (linr x)) := by rw [ixs28 e.hld]; simp [-bind_some, hg]
      have hr : e.ls.drop (i + 1) = [] ↔ (i : Int) = (e.ls.length : Int) - 1 := by
        rw [List.drop_eq_nil_iff]; omega
      have l0 : dLoad tab g ty78 (.fptr (linr x)) = some (.agg (linr x)) := id rfl
      have l1 : boxN 3 (.agg (linr x)) = some (.fptr (linr x)) := boxN_agg 3 _ rfl
      have f0 : dFieldAddr tab ty78 0 (.fptr (linr x)) = some (.fptr (linr x)) := id rfl
      have f1 : dFieldAddr tab ty78 1 (.fptr (linr x)) = some (.fptr [.int .i64 x.len, .str x.txt]) := id rfl
      have f2 : dFieldAddr tab ty78 2 (.fptr (linr x)) = some (.fptr [.str x.txt]) := id rfl
      have k0 : dLoad tab g ty3 (.fptr (linr x)) = some (.int .i64 x.off) := id rfl
      have k1 : dLoad tab g ty3 (.fptr [.int .i64 x.len, .str x.txt]) = some (.int .i64 x.len) := id rfl
      have k2 : dLoad tab g ty9 (.fptr [.str x.txt]) = some (.str x.txt) := id rfl
      unfold lnE at hch
      simp only [hix, l0, l1, f0, f1, f2, k0, bs, dBin_neq]
      by_cases c1 : x.off = at_
      case neg =>
        rw [if_neg (fun hh => c1 hh.1)] at hch
        simp only [c1, ne_eq, not_false_eq_true, decide_true, gd_bool, gd_und, reduceCtorEq, Bool.true_eq_false, if_false, bs, dPick_bool, if_true, dIf_bool]
        exact .some (.inr ⟨by simp, rfl, .inr ⟨rfl, by rw [← hch]; rfl⟩⟩)
      by_cases c2 : x.len < 1
      · rw [if_neg (fun hh => hh.2.1 c2)] at hch
        simp only [c1, c2, ne_eq, not_true, decide_true, decide_false, gd_bool, gd_und, reduceCtorEq, Bool.true_eq_false, Bool.false_eq_true, if_false, bs, k1, dBin_lss, dPick_bool, if_true, dIf_bool]
        exact .some (.inr ⟨by simp, rfl, .inr ⟨rfl, by rw [← hch]; rfl⟩⟩)
      generalize hT : IntKind.wrap .i64 (e.a3 - at_) = T at hch
      by_cases c3 : T < x.len
      · rw [if_neg (fun hh => hh.2.2.1 c3)] at hch
        simp only [c1, c2, c3, ne_eq, not_true, decide_true, decide_false, gd_bool, gd_und, reduceCtorEq, Bool.true_eq_false, Bool.false_eq_true, if_false, bs, k1, fa31_3, ld3, dBin_sub, hT, dBin_lss, dBin_gtr, dPick_bool, if_true, dIf_bool]
        exact .some (.inr ⟨by simp, rfl, .inr ⟨rfl, by rw [← hch]; rfl⟩⟩)
      by_cases c4 : e.ls.drop (i + 1) = [] ∧ x.len < T
      · rw [if_neg (fun hh => hh.2.2.2 c4)] at hch
        have c5 : (i : Int) = (e.ls.length : Int) - 1 := hr.1 c4.1
        have c6 : ¬ x.len = T := by have := c4.2; omega
        have d5 : decide ((i : Int) = (e.ls.length : Int) - 1) = true := decide_eq_true c5
        simp only [c1, c2, c3, d5, c6, ne_eq, not_true, not_false_eq_true, decide_true, decide_false, gd_bool, gd_und, reduceCtorEq, Bool.true_eq_false, Bool.false_eq_true, if_false, bs, k1, fa31_3, fa31_4, ld28, lens28 e.hld, ld3, dBin_sub, hw4, hT, dBin_lss, dBin_gtr, dBin_eql, dBin_neq, dPick_bool, if_true, dIf_bool]
        exact .some (.inr ⟨by simp, rfl, .inr ⟨rfl, by rw [← hch]; rfl⟩⟩)
      rw [if_pos ⟨c1, c2, c3, c4⟩] at hch
      have c6 : (i : Int) = (e.ls.length : Int) - 1 → x.len = T := fun c5 => by
        have : ¬ x.len < T := fun hh => c4 ⟨hr.2 c5, hh⟩
        omega
      by_cases c7 : m < x.txt.length
      · rw [if_pos c7] at hch
        have c7' : (x.txt.length : Int) > m := c7
        by_cases c5 : (i : Int) = (e.ls.length : Int) - 1
        · replace c6 := c6 c5
          have d5 : decide ((i : Int) = (e.ls.length : Int) - 1) = true := decide_eq_true c5
          have d6 : decide (¬ x.len = T) = false := decide_eq_false (fun hh => hh c6)
          simp only [c1, c2, c3, d5, d6, c7', ne_eq, not_true, not_false_eq_true, decide_true, decide_false, gd_bool, gd_und, reduceCtorEq, Bool.true_eq_false, Bool.false_eq_true, if_false, bs, k1, k2, fa31_3, fa31_4, ld28, lens28 e.hld, ld3, dBin_sub, hw4, hT, dBin_lss, dBin_gtr, dBin_eql, dBin_neq, dPick_bool, if_true, dIf_bool, len9, dBin_add, hw, Int.lt_irrefl]
          exact .some (.inr ⟨by simp, rfl, .inr ⟨rfl, by rw [← hch]; rfl⟩⟩)
        · clear c6
          simp only [c1, c2, c3, c5, c7', ne_eq, not_true, not_false_eq_true, decide_true, decide_false, gd_bool, gd_und, reduceCtorEq, Bool.true_eq_false, Bool.false_eq_true, if_false, bs, k1, k2, fa31_3, fa31_4, ld28, lens28 e.hld, ld3, dBin_sub, hw4, hT, dBin_lss, dBin_gtr, dBin_eql, dBin_neq, dPick_bool, if_true, dIf_bool, len9, dBin_add, hw, Int.lt_irrefl]
          exact .some (.inr ⟨by simp, rfl, .inr ⟨rfl, by rw [← hch]; rfl⟩⟩)
      · rw [if_neg c7] at hch
        have c7' : ¬ (x.txt.length : Int) > m := c7
        by_cases c5 : (i : Int) = (e.ls.length : Int) - 1
        · replace c6 := c6 c5
          have d5 : decide ((i : Int) = (e.ls.length : Int) - 1) = true := decide_eq_true c5
          have d6 : decide (¬ x.len = T) = false := decide_eq_false (fun hh => hh c6)
          simp only [c1, c2, c3, d5, d6, c7', ne_eq, not_true, not_false_eq_true, decide_true, decide_false, gd_bool, gd_und, reduceCtorEq, Bool.true_eq_false, Bool.false_eq_true, if_false, bs, k1, k2, fa31_3, fa31_4, ld28, lens28 e.hld, ld3, dBin_sub, hw4, hT, dBin_lss, dBin_gtr, dBin_eql, dBin_neq, dPick_bool, if_true, dIf_bool, len9, dBin_add, hw, Int.lt_irrefl]
          exact .some (.inl ⟨rfl, k - 1, by omega, rfl, _, _, _, _, _, _, i + 1, rfl, by omega, hch⟩)
        · clear c6
          simp only [c1, c2, c3, c5, c7', ne_eq, not_true, not_false_eq_true, decide_true, decide_false, gd_bool, gd_und, reduceCtorEq, Bool.true_eq_false, Bool.false_eq_true, if_false, bs, k1, k2, fa31_3, fa31_4, ld28, lens28 e.hld, ld3, dBin_sub, hw4, hT, dBin_lss, dBin_gtr, dBin_eql, dBin_neq, dPick_bool, if_true, dIf_bool, len9, dBin_add, hw, Int.lt_irrefl]
          exact .some (.inl ⟨rfl, k - 1, by omega, rfl, _, _, _, _, _, _, i + 1, rfl, by omega, hch⟩)
    · intro h0
      have h0 : e.ls.length ≤ i := by have : ¬ (i : Int) < e.ls.length := by simpa using h0
                                      omega
      rw [List.drop_of_length_le h0] at hch
      exact .some (.inr ⟨by simp, rfl, .inl ⟨rfl, hch.symm⟩⟩)
  · rintro ⟨ex, ds, g⟩ ⟨h2, h3⟩
    simp only at h2 h3
    subst h2
    rcases h3 with ⟨rfl, rfl⟩ | ⟨rfl, hv⟩
    · simp only [unblk_self, toEnd_nrm, bs, mkRes_one]
      exact .some rfl
    · simp only [unblk_ret, toEnd_ret, exEnd_ret, nth_zero, bs, hv, mkRes_one]
      exact .some rfl
def ltS (x y : Str × Str) : Prop := Op.bytesLess x.1 y.1 = true
theorem ltS_le {x y : Str × Str} (h : ltS x y) : leS x y := by
  rw [leS_def]
  cases hh : Op.bytesLess y.1 x.1
  · rfl
  · have := bL_tr h hh
    rw [bL_irr] at this; cases this
theorem lt_adj {C : List (Str × Str)} (h : C.Pairwise ltS) : adjB C = false := by
  rw [sorted_adj (h.imp ltS_le), List.Nodup, List.pairwise_map]
  exact h.imp fun {a b} hab he => by
    have : Op.bytesLess a.1 b.1 = true := hab
    rw [he, bL_irr] at this; cases this
theorem sort_lt {l C : List (Str × Str)} (hp : C.Perm l) (hs : C.Pairwise ltS) (h32 : l.length ≤ 32) (hn : l.all (fun p => fnameOK p.1) = true) : sortF l = (0, C) := by
  obtain ⟨a1, a2⟩ := sort_any hp (hs.imp ltS_le)
  have h := lt_adj hs
  have h32n : ¬ 32 < l.length := by omega
  rw [a2 h]
  rw [h] at a1
  simp only [sortF, h32n, if_false, hn, if_true, ← a1, Bool.false_eq_true]
theorem sort_two {l : List (Str × Str)} (h32 : l.length ≤ 32) (hn : l.all (fun p => fnameOK p.1) = true) (hd : ¬ (l.map Prod.fst).Nodup) : sortF l = (7, []) := by
  obtain ⟨h1, h2⟩ := srt_ok l
  have : adjB (srt l) = true := by
    cases hq : adjB (srt l)
    · rw [sorted_adj h2, (h1.map Prod.fst).nodup_iff] at hq
      exact absurd hq hd
    · rfl
  have h32n : ¬ 32 < l.length := by omega
  simp only [sortF, h32n, if_false, hn, if_true, this]
theorem l1015n (l : List (Str × Str)) (d : D) (h : Hp) (hd : SlOf 2 fld l d) (hl : l.length ≤ 32) (hb : ∀ p ∈ l, p.1.length ≤ 9223372036854775807) {β : Type} {K : Out → Option β} {Q : β → Prop} (a b x1 x2 : D)
    (k1 : l.all (fun p => fnameOK p.1) = true → ∀ x y z, Wp (K (.ext 0, [a, b, x, y, z], h)) Q) (k2 : ¬ l.all (fun p => fnameOK p.1) = true → ∀ x y z, Wp (K (.ret, [.nils, .int .i64 6, x, y, z], h)) Q) :
    Wp ((loopW (F1015_L0 d) [a, b, .int .i64 0, x1, x2] h).bind K) Q := by
  generalize hV : l.all (fun p => fnameOK p.1) = V at k1 k2
  refine Wp.loop (fun k ds g => g = h ∧ ∃ e f, ∃ i : Nat, ds = [a, b, .int .i64 i, e, f] ∧ k + i = l.length ∧ (l.drop i).all (fun p => fnameOK p.1) = V)
      (fun x => x.2.2 = h ∧ ((x.1 = .ext 0 ∧ V = true ∧ ∃ p q r, x.2.1 = [a, b, p, q, r]) ∨ (x.1 = .ret ∧ V = false ∧ ∃ p q r, x.2.1 = [.nils, .int .i64 6, p, q, r]))) l.length ⟨rfl, _, _, 0, rfl, rfl, hV⟩ ?_ ?_
  · rintro k ds g ⟨rfl, e, f, i, rfl, hk, hch⟩
    simp only [F1015_L0, nth_zero, nth_succ, bs, Option.bind_assoc, lens29 hd, dBin_lss]
    refine Wp.dif ?_ ?_
    · intro h0
      have h0 : i < l.length := by have : (i : Int) < l.length := by simpa using h0
                                   omega
      have hg : l[i]? = some l[i] := List.getElem?_eq_getElem h0
      have hw : IntKind.wrap .i64 ((i : Int) + 1) = ((i + 1 : Nat) : Int) := by
        rw [wrap_i64 (by omega) (by omega)]; omega
      have hbx := hb l[i] (List.getElem_mem _)
      rw [List.drop_eq_getElem_cons h0] at hch
      generalize l[i] = x at hg hch hbx
      simp only [ixs29 hd, Int.natCast_nonneg, if_true, Int.toNat_natCast, hg, Option.map_some, bs, fld_f0 x, fld_l0, s1018 x.1 g hbx, dUn_not]
      simp only [List.all_cons] at hch
      cases hf : fnameOK x.1
      · rw [hf] at hch
        simp only [Bool.not_false, dIf_bool, if_true]
        exact .some (.inr ⟨by simp, rfl, .inr ⟨rfl, hch.symm, _, _, _, rfl⟩⟩)
      · rw [hf] at hch
        simp only [Bool.not_true, dIf_bool, Bool.false_eq_true, if_false, dBin_add, bs, hw]
        exact .some (.inl ⟨rfl, k - 1, by omega, rfl, _, _, i + 1, rfl, by omega, hch⟩)
    · intro h0
      have h0 : l.length ≤ i := by have : ¬ (i : Int) < l.length := by simpa using h0
                                   omega
      rw [List.drop_of_length_le h0] at hch
      exact .some (.inr ⟨by simp, rfl, .inl ⟨rfl, hch.symm, _, _, _, rfl⟩⟩)
  · rintro ⟨x, ds, g⟩ ⟨h2, h3⟩
    simp only at h2 h3
    subst h2
    rcases h3 with ⟨rfl, hv, p, q, r, rfl⟩ | ⟨rfl, hv, p, q, r, rfl⟩
    · exact k1 hv _ _ _
    · exact k2 (by rw [hv]; simp [-bind_some]) _ _ _
theorem l1015s (l : List (Str × Str)) (d : D) (hd : SlOf 2 fld l d) (ds0 : List D) (i : Nat) (x : Str × Str) (hx : l[i]? = some x) (hi1 : nth 3 ds0 = .int .i64 (i : Int)) (O : List (Str × Str)) (hOl : O.length ≤ 1000) (ob : Nat) (g : Hp) (hg : g[ob]? = some (.row ty109 2 ((O ++ [x]).map fld))) (b : D) {β : Type} {f : Out → Option β} {Q : β → Prop}
    (K : ∀ (k : Nat) (z : Str × Str) (g' : Hp) (v : D), k ≤ O.length → g'[ob]? = some (.row ty109 2 ((O.take k ++ z :: O.drop k).map fld)) → Same ob g g' → (k = 0 ∨ ∃ y, O[k - 1]? = some y ∧ ¬ ltS x y) → (∀ j y, k ≤ j → O[j]? = some y → ltS x y) → Wp (f (.ext 4, [.int .i64 (k : Int), v], g')) Q) :
    Wp ((loopW (F1015_L2 d ds0 (.msl 2 ob 0 (O.length + 1))) [.int .i64 (O.length : Int), b] g).bind f) Q := by
  refine Wp.loop (fun n ds g' => ∃ c z, ds = [.int .i64 (n : Int), c] ∧ n ≤ O.length ∧ g'[ob]? = some (.row ty109 2 ((O.take n ++ z :: O.drop n).map fld)) ∧ Same ob g g' ∧ ∀ j y, n ≤ j → O[j]? = some y → ltS x y)
    (fun r => r.1 = .ext 4 ∧ ∃ (k : Nat) (z : Str × Str) (v : D), r.2.1 = [.int .i64 (k : Int), v] ∧ k ≤ O.length ∧ r.2.2[ob]? = some (.row ty109 2 ((O.take k ++ z :: O.drop k).map fld)) ∧ Same ob g r.2.2 ∧ (k = 0 ∨ ∃ y, O[k - 1]? = some y ∧ ¬ ltS x y) ∧ (∀ j y, k ≤ j → O[j]? = some y → ltS x y)) O.length
    ⟨_, x, rfl, Nat.le_refl _, by rw [List.take_length, List.drop_length]; exact hg, .refl _ _, fun j y hj hy => by have := (List.getElem?_eq_some_iff.1 hy).1; omega⟩ ?_ ?_
  · rintro n ds g' ⟨c, z, rfl, hn, hg', sm, hall⟩
    have hix : dIndexAddr tab ty29 d (.int .i64 (i : Int)) = some (.fptr (fld x)) := by rw [ixs29 hd]; simp [-bind_some, hx]
    simp only [F1015_L2, nth_zero, nth_succ, bs, Option.bind_assoc, hi1, dBin_gtr]
    by_cases h0 : n = 0
    · subst h0
      have d0 : decide (((0 : Nat) : Int) > 0) = false := decide_eq_false (by omega)
      simp only [d0, gd_bool, gd_und, reduceCtorEq, if_false, if_true, bs, dPick_bool, Bool.false_eq_true, dIf_bool]
      exact .some (.inr ⟨by simp, rfl, 0, z, _, rfl, by omega, hg', sm, .inl rfl, hall⟩)
    · obtain ⟨m, rfl⟩ : ∃ m, n = m + 1 := ⟨n - 1, by omega⟩
      have d0 : decide (((m + 1 : Nat) : Int) > 0) = true := decide_eq_true (by omega)
      have hw : IntKind.wrap .i64 (((m + 1 : Nat) : Int) - 1) = (m : Int) := by rw [wrap_i64 (by omega) (by omega)]; omega
      obtain ⟨y, hy⟩ : ∃ y, O[m]? = some y := ⟨_, List.getElem?_eq_getElem (by omega)⟩
      have htl : (O.take (m + 1)).length = m + 1 := by simp; omega
      have hym : ((O.take (m + 1) ++ z :: O.drop (m + 1)).map fld)[m]? = some (fld y) := by
        rw [List.getElem?_map, List.getElem?_append_left (by omega), List.getElem?_take, if_pos (by omega), hy]; rfl
      have hzm : ((O.take (m + 1) ++ z :: O.drop (m + 1)).map fld)[m + 1]? = some (fld z) := by
        rw [List.getElem?_map, get_midn _ _ z _ htl]; rfl
      have iy : dIndexAddr tab ty29 (.msl 2 ob 0 (O.length + 1)) (.int .i64 (m : Int)) = some (.ptr ob m 0) := by rw [ixm29, if_pos (by omega)]; simp [-bind_some]
      have iz : dIndexAddr tab ty29 (.msl 2 ob 0 (O.length + 1)) (.int .i64 ((m + 1 : Nat) : Int)) = some (.ptr ob (m + 1) 0) := by rw [ixm29, if_pos (by omega)]; simp [-bind_some]
      have ly : dLoad tab g' ty9 (.ptr ob m 0) = some (.str y.1) := by rw [ldp9, row_of hg', hym]; rfl
      have lyr : dLoad tab g' ty109 (.ptr ob m 0) = some (.agg (fld y)) := by rw [ldp109, row_of hg', hym]; rfl
      simp only [d0, gd_bool, if_true, bs, dBin_sub, hw, iy, fap109_0, ly, hix, fld_f0 x, fld_l0, sgtr, dPick_bool]
      by_cases hlt : ltS x y
      · have hb : (!(Op.bytesLess y.1 x.1 || y.1 == x.1)) = true := by
          have h1 : Op.bytesLess x.1 y.1 = true := hlt
          have h2 : Op.bytesLess y.1 x.1 = false := (leS_def x y).1 (ltS_le hlt)
          have h3 : (y.1 == x.1) = false := by
            cases hq : (y.1 == x.1)
            · rfl
            · rw [eq_of_beq hq, bL_irr] at h1; cases h1
          rw [h2, h3]; rfl
        simp only [hb, dIf_bool, if_true, dBin_sub, hw, iy, lyr, iz, bs, Option.bind_assoc]
        refine wst109 (off := 0) hg' hzm (by rfl) (by exact Nat.le_refl _) (by rfl) fun g2 p2 s2 => ?_
        have hset : ((O.take (m + 1) ++ z :: O.drop (m + 1)).map fld).set (m + 1) (spl (fld z) 0 (cells1 (.agg (fld y)))) = (O.take m ++ y :: O.drop m).map fld := by
          rw [show spl (fld z) 0 (cells1 (.agg (fld y))) = fld y from rfl, ← List.map_set, set_mid _ _ z y _ htl, drop_cons hy, List.take_add_one, hy]
          simp [-bind_some]
        rw [hset] at p2
        try simp only [bs, dBin_sub, hw]
        exact .some (.inl ⟨rfl, m, by omega, _, y, rfl, by omega, p2, sm.trans s2, fun j y' hj hy' => by
          by_cases hjm : j = m
          · subst hjm; rw [hy] at hy'; injection hy' with hy'; subst hy'; exact hlt
          · exact hall j y' (by omega) hy'⟩)
      · have hb : (!(Op.bytesLess y.1 x.1 || y.1 == x.1)) = false := by
          by_cases h3 : y.1 = x.1
          · have : (y.1 == x.1) = true := by simpa using h3
            rw [this]; simp [-bind_some]
          · have h1 : Op.bytesLess x.1 y.1 = false := by
              cases hq : Op.bytesLess x.1 y.1
              · rfl
              · exact absurd hq hlt
            have h2 := bL_tot h1 (fun hh => h3 hh.symm)
            rw [h2]; rfl
        simp only [hb, dIf_bool, Bool.false_eq_true, if_false]
        exact .some (.inr ⟨by simp, rfl, m + 1, z, _, rfl, hn, hg', sm, .inr ⟨y, by simpa using hy, hlt⟩, hall⟩)
  · rintro ⟨ex, ds, g'⟩ ⟨rfl, k, z, v, rfl, k1, k2, k3, k4, k5⟩
    exact K k z g' v k1 k2 k3 k4 k5
theorem ltS_tr {x y z : Str × Str} (h : ltS x y) (k : ltS y z) : ltS x z := bL_tr h k
theorem ins_lt {O : List (Str × Str)} {y : Str × Str} {k : Nat} (hs : O.Pairwise ltS) (h1 : k = 0 ∨ ∃ z, O[k - 1]? = some z ∧ ltS z y) (h2 : ∀ j z, k ≤ j → O[j]? = some z → ltS y z) : (O.take k ++ y :: O.drop k).Pairwise ltS := by
  rw [List.pairwise_append]
  have hs' := hs
  rw [← List.take_append_drop k O, List.pairwise_append] at hs'
  have q1 : ∀ a ∈ O.take k, ltS a y := by
    intro a ha
    rcases h1 with rfl | ⟨z, hz, hzy⟩
    · simp at ha
    · obtain ⟨j, hj⟩ := List.getElem?_of_mem ha
      rw [List.getElem?_take] at hj
      split at hj
      · rename_i hjk
        by_cases hjz : j = k - 1
        · subst hjz; rw [hz] at hj; injection hj with hj; subst hj; exact hzy
        · obtain ⟨n1, e1⟩ := List.getElem?_eq_some_iff.1 hj
          obtain ⟨n2, e2⟩ := List.getElem?_eq_some_iff.1 hz
          have := List.pairwise_iff_getElem.1 hs j (k - 1) n1 n2 (by omega)
          rw [e1, e2] at this
          exact ltS_tr this hzy
      · cases hj
  have q2 : ∀ b ∈ O.drop k, ltS y b := by
    intro b hb
    obtain ⟨j, hj⟩ := List.getElem?_of_mem hb
    rw [List.getElem?_drop] at hj
    exact h2 (k + j) b (by omega) hj
  refine ⟨hs'.1, List.pairwise_cons.2 ⟨q2, hs'.2.1⟩, fun a ha b hb => ?_⟩
  rcases List.mem_cons.1 hb with rfl | hb
  · exact q1 a ha
  · exact hs'.2.2 a ha b hb
theorem dup_not {l : List (Str × Str)} {i : Nat} {y z : Str × Str} (hy : l[i]? = some y) (hz : z ∈ l.take i) (he : z.1 = y.1) : ¬ (l.map Prod.fst).Nodup := by
  intro hn
  have e : l = l.take i ++ y :: l.drop (i + 1) := by
    rw [← drop_cons hy, List.take_append_drop]
  rw [e, List.map_append, List.map_cons, List.nodup_append] at hn
  exact hn.2.2 z.1 (List.mem_map.2 ⟨z, hz, rfl⟩) y.1 (by simp) he
theorem s1015g (l : List (Str × Str)) (d : D) (h : Hp) (hd : SlOf 2 fld l d) (hb : ∀ p ∈ l, p.1.length ≤ 9223372036854775807) : ∃ d', R fn1015 [d] h = some (.tup [d', .int .i64 (sortF l).1], h) ∧ ((sortF l).1 = 0 → SlOf 2 fld (sortF l).2 d') := by
  suffices Wp (R fn1015 [d] h) (fun p => p.2 = h ∧ ∃ d', p.1 = .tup [d', .int .i64 (sortF l).1] ∧ ((sortF l).1 = 0 → SlOf 2 fld (sortF l).2 d')) by
    obtain ⟨⟨x, h'⟩, h1, rfl, d', rfl, h2⟩ := this
    exact ⟨d', h1, h2⟩
  have sc : ∀ (g : Hp) (v : Int), h.length ≤ g.length → (∀ q, q < h.length → g[q]? = h[q]?) → scope h g (.tup [.nils, .int .i64 v]) = some (.tup [.nils, .int .i64 v], h) := fun g v h1 h2 => scope_eq (by simp) (.tup _ fun x hx => by
    simp only [List.mem_cons, List.not_mem_nil, or_false] at hx
    rcases hx with rfl | rfl
    · exact .nils
    · exact .int _ _) h1 h2
  rw [e1015]
  by_cases h32n : 32 < l.length
  · have h32 : decide ((l.length : Int) > 32) = true := decide_eq_true (by omega)
    have hs : sortF l = (4, []) := by simp only [sortF, h32n, if_true]
    rw [hs]
    simp only [F1015, bs, Option.bind_assoc, lens29 hd, dBin_gtr, h32, dIf_bool, if_true, mkRes_two, sc h 4 (Nat.le_refl _) (fun _ _ => rfl)]
    exact .some ⟨rfl, .nils, rfl, fun hh => by cases hh⟩
  have h32 : decide ((l.length : Int) > 32) = false := decide_eq_false (by omega)
  simp only [F1015, bs, Option.bind_assoc, lens29 hd, dBin_gtr, h32, dIf_bool, Bool.false_eq_true, if_false]
  refine l1015n l d h hd (by omega) hb _ _ _ _ (fun hv x y z => ?_) (fun hv x y z => ?_)
  case refine_2 =>
    have hs : sortF l = (6, []) := by simp only [sortF, h32n, if_false, hv]; rfl
    rw [hs]
    simp only [unblk_ret, toEnd_ret, exEnd_ret, nth_zero, nth_succ, bs, mkRes_two, sc h 6 (Nat.le_refl _) (fun _ _ => rfl)]
    exact .some ⟨rfl, .nils, rfl, fun hh => by cases hh⟩
  simp only [unblk_self, toEnd_nrm, nth_zero, nth_succ, bs, Option.bind_assoc]
  clear x y z
  refine Wp.loop (fun k ds g => h.length ≤ g.length ∧ (∀ q, q < h.length → g[q]? = h[q]?) ∧ ∃ a b x c e f u, ∃ (i : Nat) (O : List (Str × Str)), ds = [a, b, x, .int .i64 (i : Int), c, e, f, u] ∧ k + i = l.length ∧ Own g h.length ty109 2 (O.map fld) x ∧ O.Perm (l.take i) ∧ O.Pairwise ltS)
      (fun r => h.length ≤ r.2.2.length ∧ (∀ q, q < h.length → r.2.2[q]? = h[q]?) ∧ ((r.1 = .ext 2 ∧ ∃ O : List (Str × Str), Own r.2.2 h.length ty109 2 (O.map fld) (nth 2 r.2.1) ∧ sortF l = (0, O)) ∨ (r.1 = .ret ∧ nth 0 r.2.1 = .nils ∧ nth 1 r.2.1 = .int .i64 7 ∧ sortF l = (7, [])))) l.length
      ⟨Nat.le_refl _, fun _ _ => rfl, _, _, _, _, _, _, _, 0, [], rfl, rfl, Own.nils _ _ _ _, by simp, List.Pairwise.nil⟩ ?_ ?_
  · rintro k ds g ⟨hgl, hgq, a, b, x, c, e, f, u, i, O, rfl, hk, ow, hp, hs⟩
    simp only [F1015_L1, nth_zero, nth_succ, bs, Option.bind_assoc, lens29 hd, dBin_lss]
    refine Wp.dif ?_ ?_
    · intro h0
      have h0 : i < l.length := by have : (i : Int) < l.length := by simpa using h0
                                   omega
      obtain ⟨y, hy⟩ : ∃ y, l[i]? = some y := ⟨_, List.getElem?_eq_getElem h0⟩
      have hw : IntKind.wrap .i64 ((i : Int) + 1) = ((i + 1 : Nat) : Int) := by rw [wrap_i64 (by omega) (by omega)]; omega
      have hOl : O.length = i := by rw [hp.length_eq, List.length_take]; omega
      have hlit : pLitF tab ty29 1 [0] [.agg (fld y)] = some (.sl 2 true [fld y]) := id rfl
      have hix : dIndexAddr tab ty29 d (.int .i64 (i : Int)) = some (.fptr (fld y)) := by rw [ixs29 hd]; simp [-bind_some, hy]
      simp only [leno29 ow, List.length_map, hix, bs, fld_ld, hlit, Option.bind_assoc]
      refine wap29 hgl ow (rowsOf_sl _ _ _ _) (by simp only [List.length_map, List.length_cons, List.length_nil]; omega) fun x1 g1 ow1 len1 bel1 _ _ => ?_
      have hrow : O.map fld ++ [fld y] = (O ++ [y]).map fld := by simp
      rw [hrow] at ow1
      obtain ⟨ob, hob, rfl, hgo⟩ := own_ix ow1 (i := 0) (by simp)
      have hlen1 : ((O ++ [y]).map fld).length = O.length + 1 := by simp
      rw [hlen1]
      try simp only [bs]
      refine l1015s l d hd [a, b, x, .int .i64 (i : Int), c, e, f, u] i y hy rfl O (by omega) ob g1 hgo _ fun k' z g2 v k1 k2 k3 k4 k5 => ?_
      have hm : (O.take k').length = k' := by simp; omega
      have hzk : ((O.take k' ++ z :: O.drop k').map fld)[k']? = some (fld z) := by rw [List.getElem?_map, get_midn _ _ z _ hm]; rfl
      have ik : dIndexAddr tab ty29 (.msl 2 ob 0 (O.length + 1)) (.int .i64 (k' : Int)) = some (.ptr ob k' 0) := by rw [ixm29, if_pos (by omega)]; simp [-bind_some]
      simp only [unblk_self, toEnd_nrm, bs, nth_zero, nth_succ, Option.bind_assoc, hix, fld_ld, ik]
      refine wst109 (off := 0) k2 hzk (by rfl) (by exact Nat.le_refl _) (by rfl) fun g3 p3 s3 => ?_
      rw [show spl (fld z) 0 (cells1 (.agg (fld y))) = fld y from rfl, ← List.map_set, set_mid _ _ z y _ hm] at p3
      have hlenN : (O.take k' ++ y :: O.drop k').length = O.length + 1 := by
        have := congrArg List.length (List.take_append_drop k' O)
        simp only [List.length_append, List.length_cons] at this ⊢; omega
      have ow3 : Own g3 h.length ty109 2 ((O.take k' ++ y :: O.drop k').map fld) (.msl 2 ob 0 (O.length + 1)) := .inr ⟨ob, hob, by rw [List.length_map, hlenN], p3⟩
      have hgl3 : h.length ≤ g3.length := by have := s3.1; have := k3.1; omega
      have hgq3 : ∀ q, q < h.length → g3[q]? = h[q]? := fun q hq => by rw [s3.2 q (by omega), k3.2 q (by omega), bel1 q hq]; exact hgq q hq
      have hpN : (O.take k' ++ y :: O.drop k').Perm (l.take (i + 1)) := by
        rw [List.take_add_one, hy, Option.toList_some]
        refine List.perm_middle.trans ?_
        rw [List.take_append_drop]
        exact (List.Perm.cons y hp).trans (by simpa using (List.perm_append_comm (l₁ := [y]) (l₂ := l.take i)))
      have nxt : (O.take k' ++ y :: O.drop k').Pairwise ltS → ∀ (c1 c2 c3 c4 c5 c6 : D), (fun r : Out => (r.1 = .nrm ∧ ∃ k'' , k'' < k ∧ h.length ≤ r.2.2.length ∧ (∀ q, q < h.length → r.2.2[q]? = h[q]?) ∧ ∃ a b x c e f u, ∃ (i : Nat) (O : List (Str × Str)), r.2.1 = [a, b, x, .int .i64 (i : Int), c, e, f, u] ∧ k'' + i = l.length ∧ Own r.2.2 h.length ty109 2 (O.map fld) x ∧ O.Perm (l.take i) ∧ O.Pairwise ltS)) (.nrm, [c1, c2, .msl 2 ob 0 (O.length + 1), .int .i64 ((i + 1 : Nat) : Int), c3, c4, c5, c6], g3) := fun hs3 c1 c2 c3 c4 c5 c6 => ⟨rfl, k - 1, by omega, hgl3, hgq3, _, _, _, _, _, _, _, i + 1, _, rfl, by omega, ow3, hpN, hs3⟩
      try simp only [bs, dBin_gtr, Option.bind_assoc]
      by_cases hk0 : k' = 0
      · subst hk0
        have d0 : decide (((0 : Nat) : Int) > 0) = false := decide_eq_false (by omega)
        simp only [d0, gd_bool, gd_und, reduceCtorEq, if_false, if_true, bs, dPick_bool, Bool.false_eq_true, dIf_bool, dBin_add, hw]
        exact .some (.inl (nxt (ins_lt hs (.inl rfl) k5) _ _ _ _ _ _))
      · obtain ⟨w, hwk, hwn⟩ := k4.resolve_left hk0
        have d0 : decide ((k' : Int) > 0) = true := decide_eq_true (by omega)
        have hw1 : IntKind.wrap .i64 ((k' : Int) - 1) = ((k' - 1 : Nat) : Int) := by rw [wrap_i64 (by omega) (by omega)]; omega
        have iw : dIndexAddr tab ty29 (.msl 2 ob 0 (O.length + 1)) (.int .i64 ((k' - 1 : Nat) : Int)) = some (.ptr ob (k' - 1) 0) := by rw [ixm29, if_pos (by omega)]; simp [-bind_some]
        have hwr : ((O.take k' ++ y :: O.drop k').map fld)[k' - 1]? = some (fld w) := by
          rw [List.getElem?_map, List.getElem?_append_left (by omega), List.getElem?_take, if_pos (by omega), hwk]; rfl
        have lw : dLoad tab g3 ty9 (.ptr ob (k' - 1) 0) = some (.str w.1) := by rw [ldp9, row_of p3, hwr]; rfl
        simp only [d0, gd_bool, if_true, bs, dBin_sub, hw1, iw, fap109_0, lw, hix, fld_f0 y, fld_l0, dBin_seql, dPick_bool]
        by_cases heq : w.1 = y.1
        · have hb1 : (w.1 == y.1) = true := by simpa using heq
          have hwm : w ∈ l.take i := hp.mem_iff.1 (List.mem_of_getElem? hwk)
          have hd7 := sort_two (l := l) (by omega) hv (dup_not hy hwm heq)
          simp only [hb1, dIf_bool, if_true]
          exact .some (.inr ⟨by simp, hgl3, hgq3, .inr ⟨rfl, rfl, rfl, hd7⟩⟩)
        · have hb1 : (w.1 == y.1) = false := by simpa using heq
          have hwy : ltS w y := by
            have h1 : Op.bytesLess y.1 w.1 = false := by
              cases hq : Op.bytesLess y.1 w.1
              · rfl
              · exact absurd hq hwn
            exact bL_tot h1 (fun hh => heq hh.symm)
          simp only [hb1, dIf_bool, Bool.false_eq_true, if_false, dBin_add, hw, bs]
          exact .some (.inl (nxt (ins_lt hs (.inr ⟨w, hwk, hwy⟩) k5) _ _ _ _ _ _))
    · intro h0
      have h0 : l.length ≤ i := by have : ¬ (i : Int) < l.length := by simpa using h0
                                   omega
      rw [List.take_of_length_le h0] at hp
      exact .some (.inr ⟨by simp, hgl, hgq, .inl ⟨rfl, O, ow, sort_lt hp hs (by omega) hv⟩⟩)
  · rintro ⟨ex, ds, g⟩ ⟨hgl, hgq, h3⟩
    rcases h3 with ⟨rfl, O, ow, hO⟩ | ⟨rfl, n0, n1, hO⟩
    · have hs := own_sl (n0 := h.length) (n := 2) ow (Nat.le_refl _) fun p _ y hy => by
        simp only [fld, List.mem_cons, List.not_mem_nil, or_false] at hy
        rcases hy with rfl | rfl <;> exact frz_str _ _ _ _
      have hsc : scope h g (.tup [nth 2 ds, .int .i64 0]) = some (.tup [frz h.length g 3 (nth 2 ds), .int .i64 0], h) := by
        refine scope_eq (by simp) (.tup _ fun x hx => ?_) hgl hgq
        simp only [List.mem_cons, List.not_mem_nil, or_false] at hx
        rcases hx with rfl | rfl
        · exact slof_ok hs fun p _ y hy => by
            simp only [fld, List.mem_cons, List.not_mem_nil, or_false] at hy
            rcases hy with rfl | rfl <;> exact .str _
        · exact .int _ _
      simp only [unblk_self, toEnd_nrm, bs, nth_zero, nth_succ, mkRes_two, hsc, hO]
      exact .some ⟨rfl, _, rfl, fun _ => hs⟩
    · replace n0 : nth 0 ds = .nils := n0
      replace n1 : nth 1 ds = .int .i64 7 := n1
      simp only [unblk_ret, toEnd_ret, exEnd_ret, nth_zero, nth_succ, bs, n0, n1, mkRes_two, sc g 7 hgl hgq, hO]
      exact .some ⟨rfl, .nils, rfl, fun hh => by cases hh⟩
theorem l1010 (l : List (Str × Str)) (d : D) (h : Hp) (hd : SlOf 2 fld l d) (hl : l.length ≤ 1000) {β : Type} {K : Out → Option β} {Q : β → Prop} (a x1 x2 : D)
    (k1 : (l.any fun p => decide (2000 < p.2.length)) = false → ∀ x y z, Wp (K (.ext 0, [a, x, y, z], h)) Q) (k2 : (l.any fun p => decide (2000 < p.2.length)) = true → ∀ x y z, Wp (K (.ret, [.int .i64 3, x, y, z], h)) Q) :
    Wp ((loopW (F1010_L0 d) [a, .int .i64 0, x1, x2] h).bind K) Q := by
  generalize hV : (l.any fun p => decide (2000 < p.2.length)) = V at k1 k2
  refine Wp.loop (fun k ds g => g = h ∧ ∃ e f, ∃ i : Nat, ds = [a, .int .i64 (i : Int), e, f] ∧ k + i = l.length ∧ ((l.drop i).any fun p => decide (2000 < p.2.length)) = V)
      (fun x => x.2.2 = h ∧ ((x.1 = .ext 0 ∧ V = false ∧ ∃ p q r, x.2.1 = [a, p, q, r]) ∨ (x.1 = .ret ∧ V = true ∧ ∃ p q r, x.2.1 = [.int .i64 3, p, q, r]))) l.length ⟨rfl, _, _, 0, rfl, rfl, hV⟩ ?_ ?_
  · rintro k ds g ⟨rfl, e, f, i, rfl, hk, hch⟩
    simp only [F1010_L0, nth_zero, nth_succ, bs, Option.bind_assoc, lens29 hd, dBin_lss]
    refine Wp.dif ?_ ?_
    · intro h0
      have h0 : i < l.length := by have : (i : Int) < l.length := by simpa using h0
                                   omega
      obtain ⟨x, hx⟩ : ∃ x, l[i]? = some x := ⟨_, List.getElem?_eq_getElem h0⟩
      have hw : IntKind.wrap .i64 ((i : Int) + 1) = ((i + 1 : Nat) : Int) := by rw [wrap_i64 (by omega) (by omega)]; omega
      rw [drop_cons hx] at hch
      have hix : dIndexAddr tab ty29 d (.int .i64 (i : Int)) = some (.fptr (fld x)) := by rw [ixs29 hd]; simp [-bind_some, hx]
      have f1 : dFieldAddr tab ty109 1 (.fptr (fld x)) = some (.fptr [.str x.2]) := id rfl
      have l1 : dLoad tab g ty9 (.fptr [.str x.2]) = some (.str x.2) := id rfl
      simp only [hix, f1, l1, bs, len9, dBin_gtr]
      simp only [List.any_cons] at hch
      by_cases hf : 2000 < x.2.length
      · have hf' : (x.2.length : Int) > 2000 := by omega
        simp only [hf, decide_true, Bool.true_or] at hch
        simp only [hf', decide_true, dIf_bool, if_true]
        exact .some (.inr ⟨by simp, rfl, .inr ⟨rfl, hch.symm, _, _, _, rfl⟩⟩)
      · have hf' : ¬ (x.2.length : Int) > 2000 := by omega
        simp only [hf, decide_false, Bool.false_or] at hch
        simp only [hf', decide_false, dIf_bool, Bool.false_eq_true, if_false, dBin_add, bs, hw]
        exact .some (.inl ⟨rfl, k - 1, by omega, rfl, _, _, i + 1, rfl, by omega, hch⟩)
    · intro h0
      have h0 : l.length ≤ i := by have : ¬ (i : Int) < l.length := by simpa using h0
                                   omega
      rw [List.drop_of_length_le h0] at hch
      exact .some (.inr ⟨by simp, rfl, .inl ⟨rfl, hch.symm, _, _, _, rfl⟩⟩)
  · rintro ⟨x, ds, g⟩ ⟨h2, h3⟩
    simp only at h2 h3
    subst h2
    rcases h3 with ⟨rfl, hv, p, q, r, rfl⟩ | ⟨rfl, hv, p, q, r, rfl⟩
    · exact k1 hv _ _ _
    · exact k2 hv _ _ _
def NmB (e : Ev) : Prop := ∀ p ∈ e.fs, p.1.length ≤ 9223372036854775807
theorem s1010g (e : Ev) (h : Hp) (hb : NmB e) : R fn1010 [.agg (evr e)] h = some (.int .i64 (evE e), h) := by
  suffices Wp (R fn1010 [.agg (evr e)] h) (fun p => p = (.int .i64 (evE e), h)) by
    obtain ⟨p, h1, rfl⟩ := this
    exact h1
  have q5 : dFieldAddr tab ty31 5 (.fptr (evr e)) = some (.fptr [.int .i64 e.a5, .int .i64 e.a6, .str e.s7, .str e.s8, e.fd]) := id rfl
  have q6 : dFieldAddr tab ty31 6 (.fptr (evr e)) = some (.fptr [.int .i64 e.a6, .str e.s7, .str e.s8, e.fd]) := id rfl
  have q7 : dFieldAddr tab ty31 7 (.fptr (evr e)) = some (.fptr [.str e.s7, .str e.s8, e.fd]) := id rfl
  have q8 : dFieldAddr tab ty31 8 (.fptr (evr e)) = some (.fptr [.str e.s8, e.fd]) := id rfl
  have q9 : dFieldAddr tab ty31 9 (.fptr (evr e)) = some (.fptr [e.fd]) := id rfl
  have l9 : ∀ g, dLoad tab g ty29 (.fptr [e.fd]) = some e.fd := fun g => by
    have h1 := slof_one e.hfd
    generalize e.fd = a at h1
    cases a <;> first | rfl | (simp [-bind_some, D.one] at h1)
  have hL : ∀ g, dLoad tab g ty31 (.fptr (evr e)) = some (.agg (evr e)) := fun g => id rfl
  rw [e1010]
  simp only [F1010, pBoxF_agg, bs, Option.bind_assoc, hL, s1011g, q5, q6, q7, q8, q9]
  unfold evE
  by_cases c1 : plB e = true
  case neg =>
    have c1' : plB e = false := by simpa using c1
    simp only [c1', Bool.false_eq_true, if_false, dBin_neq, ne_eq, show ¬ (2 : Int) = 0 by omega, not_false_eq_true, decide_true, gd_bool, gd_und, reduceCtorEq, Bool.true_eq_false, bs, dPick_bool, if_true, dIf_bool, Bool.not_false, Bool.true_or, mkRes_one]
    exact .some rfl
  by_cases c2 : e.a5 < 0
  · have c2' : ¬ 0 ≤ e.a5 := by omega
    simp only [c1, c2, c2', if_true, dBin_neq, ne_eq, not_true, decide_true, decide_false, gd_bool, gd_und, ld3, dBin_lss, reduceCtorEq, Bool.true_eq_false, Bool.false_eq_true, if_false, bs, dPick_bool, dIf_bool, Bool.not_true, Bool.false_and, Bool.not_false, Bool.or_true, mkRes_one]
    exact .some rfl
  have c2' : 0 ≤ e.a5 := by omega
  by_cases c3 : 253402300799999 < e.a5
  · have c3' : ¬ e.a5 ≤ 253402300799999 := by omega
    simp only [c1, c2, c2', c3, c3', if_true, dBin_neq, ne_eq, not_true, decide_true, decide_false, gd_bool, gd_und, ld3, dBin_lss, dBin_gtr, reduceCtorEq, Bool.true_eq_false, Bool.false_eq_true, if_false, bs, dPick_bool, dIf_bool, Bool.not_true, Bool.and_false, Bool.not_false, Bool.or_true, mkRes_one, gt_iff_lt]
    exact .some rfl
  have c3' : e.a5 ≤ 253402300799999 := by omega
  simp only [c1, c2, c2', c3, c3', if_true, dBin_neq, ne_eq, not_true, decide_true, decide_false, gd_bool, gd_und, ld3, dBin_lss, dBin_gtr, reduceCtorEq, Bool.true_eq_false, Bool.false_eq_true, if_false, bs, dPick_bool, dIf_bool, Bool.not_true, Bool.and_true, Bool.or_self, Bool.and_self, gt_iff_lt, s1014g, dUn_not, Option.bind_assoc]
  by_cases c4 : e.a6 < 1 ∨ ¬ Int.tmod 5040 e.a6 = 0
  · simp only [c4, not_true, decide_false, Bool.not_false, if_true, mkRes_one]
    exact .some rfl
  simp only [c4, not_false_eq_true, decide_true, Bool.not_true, Bool.false_eq_true, if_false, hL, s1012g, bs, dBin_neq, ne_eq]
  generalize hLn : linesE e 2000 = L
  by_cases c5 : L = 0
  case neg =>
    simp only [c5, not_false_eq_true, decide_true, if_true, mkRes_one]
    exact .some rfl
  subst c5
  simp only [not_true, decide_false, Bool.false_eq_true, if_false, ld9, len9, bs, dBin_gtr, gt_iff_lt]
  by_cases c6 : 32 < e.s7.length
  · have c6' : (32 : Int) < (e.s7.length : Int) := by omega
    simp only [c6, c6', true_or, decide_true, if_true, gd_bool, gd_und, reduceCtorEq, if_false, Bool.true_eq_false, bs, dPick_bool, dIf_bool, mkRes_one]
    exact .some rfl
  have c6' : ¬ (32 : Int) < (e.s7.length : Int) := by omega
  by_cases c7 : 32 < e.s8.length
  · have c7' : (32 : Int) < (e.s8.length : Int) := by omega
    simp only [c6, c6', c7, c7', or_true, decide_true, decide_false, if_true, gd_bool, if_false, Bool.false_eq_true, bs, ld9, len9, dBin_gtr, gt_iff_lt, dPick_bool, dIf_bool, mkRes_one]
    exact .some rfl
  have c7' : ¬ (32 : Int) < (e.s8.length : Int) := by omega
  obtain ⟨d', hs, hsl⟩ := s1015g e.fs e.fd h e.hfd hb
  simp only [c6, c6', c7, c7', or_self, decide_false, if_true, gd_bool, if_false, Bool.false_eq_true, bs, ld9, len9, dBin_gtr, gt_iff_lt, dPick_bool, dIf_bool, l9, hs, dExtract_tup, List.getElem?_cons_zero, List.getElem?_cons_succ, dBin_neq, ne_eq]
  have hsl2 := sortF_len e.fs
  have hs32 : (sortF e.fs).1 = 0 → (sortF e.fs).2.length ≤ 1000 := fun h0 => by
    unfold sortF at h0 ⊢
    split
    · simp [-bind_some]
    · split
      · split
        · simp [-bind_some]
        · simp only [srt_len]; omega
      · simp [-bind_some]
  generalize hS : sortF e.fs = S at hs hsl hsl2 hs32
  obtain ⟨v, s⟩ := S
  simp only at hsl hsl2 hs32 ⊢
  by_cases c8 : v = 0
  case neg =>
    simp only [c8, not_false_eq_true, decide_true, if_true, mkRes_one]
    exact .some rfl
  subst c8
  have hsd := hsl rfl
  have hsn := hs32 rfl
  simp only [not_true, decide_false, Bool.false_eq_true, if_false, bs, s95 s e.fs d' e.fd h hsd e.hfd (by omega), dUn_not, Option.bind_assoc]
  by_cases c9 : s = e.fs
  case neg =>
    simp only [c9, decide_false, Bool.not_false, if_true, not_false_eq_true, mkRes_one]
    exact .some rfl
  simp only [c9, decide_true, Bool.not_true, Bool.false_eq_true, if_false, not_true]
  rw [c9] at hsd hsn
  refine l1010 e.fs d' h hsd hsn _ _ _ (fun hv x y z => ?_) (fun hv x y z => ?_)
  · simp only [unblk_self, toEnd_nrm, bs, mkRes_one, hv, Bool.false_eq_true, if_false]
    exact .some rfl
  · simp only [unblk_ret, toEnd_ret, exEnd_ret, nth_zero, bs, mkRes_one, hv, if_true]
    exact .some rfl
theorem lnE_vals (t m : Int) : ∀ (l : List Lin) (a : Int), lnE t m a l = 0 ∨ lnE t m a l = 3 ∨ lnE t m a l = 19
  | [], a => .inl rfl
  | x :: r, a => by
    unfold lnE
    split
    · split
      · exact .inr (.inl rfl)
      · exact lnE_vals t m r _
    · exact .inr (.inr rfl)
theorem lnE_eq (t : Int) : ∀ (l : List Lin) (a : Int), (∀ x ∈ l, x.txt.length ≤ 20000) → lnE t 20000 a l = lnE t 60000 a l
  | [], a, _ => rfl
  | x :: r, a, h => by
    have h0 := h x (by simp)
    have h1 := lnE_eq t r (IntKind.wrap .i64 (a + x.len)) fun y hy => h y (by simp [-bind_some, hy])
    have h2 : ¬ (20000 : Int) < (x.txt.length : Int) := by omega
    have h3 : ¬ (60000 : Int) < (x.txt.length : Int) := by omega
    simp only [lnE, h1, h2, h3, if_false]
def itR (i : It) : Int :=
  if i.r = [] then evE i.e
  else if 32 < i.r.length then 3
  else if plB i.e = false then 2
  else if linesE i.e 20000 ≠ 0 ∧ linesE i.e 20000 ≠ 3 then linesE i.e 20000
  else if i.e.a5 ≠ 0 ∨ i.e.a6 ≠ 0 ∨ i.e.s7 ≠ [] ∨ i.e.s8 ≠ [] ∨ i.e.fs.length ≠ 0 ∨ (i.e.ls.any fun p => !(p.txt == [])) = true then 19 else 0
theorem itR_itE (i : It) : itR i = itE i := by
  unfold itR itE
  by_cases c0 : i.r = []
  · simp only [c0, if_true]
  by_cases c1 : 32 < i.r.length
  · simp only [c0, c1, if_true, if_false]
  by_cases c2 : plB i.e = false
  · simp only [c0, c1, c2, if_true, if_false]
  simp only [c0, c1, c2, if_false]
  unfold linesE
  by_cases d0 : i.e.ls.length = 0
  · simp [-bind_some, d0]
  by_cases d1 : 40 < i.e.ls.length
  · simp [-bind_some, d0, d1]
  simp only [d0, d1, if_false]
  have v20 := lnE_vals i.e.a3 20000 i.e.ls i.e.a2
  have v60 := lnE_vals i.e.a3 60000 i.e.ls i.e.a2
  by_cases hs : ∀ x ∈ i.e.ls, x.txt.length ≤ 20000
  · rw [lnE_eq i.e.a3 i.e.ls i.e.a2 hs]
    generalize lnE i.e.a3 60000 i.e.a2 i.e.ls = L at v60 ⊢
    rcases v60 with rfl | rfl | rfl <;> simp [-bind_some]
  · have hany : (i.e.ls.any fun p => !(p.txt == [])) = true := by
      rw [List.any_eq_true]
      refine Classical.byContradiction fun hn => hs fun x hx => ?_
      refine Classical.byContradiction fun h2 => hn ⟨x, hx, ?_⟩
      cases ht : x.txt with
      | nil => rw [ht] at h2; simp at h2
      | cons a b => rfl
    generalize (i.e.ls.any fun p => !(p.txt == [])) = bb at hany ⊢
    subst hany
    generalize lnE i.e.a3 60000 i.e.a2 i.e.ls = L at v60 ⊢
    generalize lnE i.e.a3 20000 i.e.a2 i.e.ls = M at v20 ⊢
    rcases v60 with rfl | rfl | rfl <;> rcases v20 with rfl | rfl | rfl <;> simp [-bind_some]
theorem l1004 (e : Ev) (h : Hp) {β : Type} {K : Out → Option β} {Q : β → Prop} (a x1 x2 : D)
    (k1 : (e.ls.any fun p => !(p.txt == [])) = false → ∀ x y z, Wp (K (.ext 0, [a, x, y, z], h)) Q) (k2 : (e.ls.any fun p => !(p.txt == [])) = true → ∀ x y z, Wp (K (.ret, [.int .i64 19, x, y, z], h)) Q) :
    Wp ((loopW (F1004_L0 (.fptr (evr e))) [a, .int .i64 0, x1, x2] h).bind K) Q := by
  have q4 : dFieldAddr tab ty31 4 (.fptr (evr e)) = some (.fptr [e.ld, .int .i64 e.a5, .int .i64 e.a6, .str e.s7, .str e.s8, e.fd]) := id rfl
  have hl := e.hll
  generalize hV : (e.ls.any fun p => !(p.txt == [])) = V at k1 k2
  refine Wp.loop (fun k ds g => g = h ∧ ∃ u f, ∃ i : Nat, ds = [a, .int .i64 (i : Int), u, f] ∧ k + i = e.ls.length ∧ ((e.ls.drop i).any fun p => !(p.txt == [])) = V)
      (fun x => x.2.2 = h ∧ ((x.1 = .ext 0 ∧ V = false ∧ ∃ p q r, x.2.1 = [a, p, q, r]) ∨ (x.1 = .ret ∧ V = true ∧ ∃ p q r, x.2.1 = [.int .i64 19, p, q, r]))) e.ls.length ⟨rfl, _, _, 0, rfl, rfl, hV⟩ ?_ ?_
  · rintro k ds g ⟨rfl, u, f, i, rfl, hk, hch⟩
    simp only [F1004_L0, nth_zero, nth_succ, bs, Option.bind_assoc, q4, ld28, lens28 e.hld, dBin_lss]
    refine Wp.dif ?_ ?_
    · intro h0
      have h0 : i < e.ls.length := by have : (i : Int) < e.ls.length := by simpa using h0
                                      omega
      obtain ⟨x, hx⟩ : ∃ x, e.ls[i]? = some x := ⟨_, List.getElem?_eq_getElem h0⟩
      have hw : IntKind.wrap .i64 ((i : Int) + 1) = ((i + 1 : Nat) : Int) := by rw [wrap_i64 (by omega) (by omega)]; omega
      rw [drop_cons hx] at hch
      have hix : dIndexAddr tab ty28 e.ld (.int .i64 (i : Int)) = some (.fptr (linr x)) := by rw [ixs28 e.hld]; simp [-bind_some, hx]
      have f1 : dFieldAddr tab ty78 2 (.fptr (linr x)) = some (.fptr [.str x.txt]) := id rfl
      have l1 : dLoad tab g ty9 (.fptr [.str x.txt]) = some (.str x.txt) := id rfl
      simp only [hix, f1, l1, bs, dBin_sneq]
      simp only [List.any_cons] at hch
      by_cases hf : (x.txt == []) = true
      · simp only [hf, Bool.not_true, Bool.false_or] at hch
        simp only [hf, Bool.not_true, dIf_bool, Bool.false_eq_true, if_false, dBin_add, bs, hw]
        exact .some (.inl ⟨rfl, k - 1, by omega, rfl, _, _, i + 1, rfl, by omega, hch⟩)
      · have hf : (x.txt == []) = false := by simpa using hf
        simp only [hf, Bool.not_false, Bool.true_or] at hch
        simp only [hf, Bool.not_false, dIf_bool, if_true]
        exact .some (.inr ⟨by simp, rfl, .inr ⟨rfl, hch.symm, _, _, _, rfl⟩⟩)
    · intro h0
      have h0 : e.ls.length ≤ i := by have : ¬ (i : Int) < e.ls.length := by simpa using h0
                                      omega
      rw [List.drop_of_length_le h0] at hch
      exact .some (.inr ⟨by simp, rfl, .inl ⟨rfl, hch.symm, _, _, _, rfl⟩⟩)
  · rintro ⟨x, ds, g⟩ ⟨h2, h3⟩
    simp only at h2 h3
    subst h2
    rcases h3 with ⟨rfl, hv, p, q, r, rfl⟩ | ⟨rfl, hv, p, q, r, rfl⟩
    · exact k1 hv _ _ _
    · exact k2 hv _ _ _
theorem s1004g (i : It) (h : Hp) (hb : NmB i.e) : R fn1004 [.agg (itr i)] h = some (.int .i64 (itE i), h) := by
  rw [← itR_itE]
  suffices Wp (R fn1004 [.agg (itr i)] h) (fun p => p = (.int .i64 (itR i), h)) by
    obtain ⟨p, h1, rfl⟩ := this
    exact h1
  have hbx : boxN 10 (.agg (evr i.e)) = some (.fptr (evr i.e)) := boxN_agg 10 _ rfl
  have q5 : dFieldAddr tab ty31 5 (.fptr (evr i.e)) = some (.fptr [.int .i64 i.e.a5, .int .i64 i.e.a6, .str i.e.s7, .str i.e.s8, i.e.fd]) := id rfl
  have q6 : dFieldAddr tab ty31 6 (.fptr (evr i.e)) = some (.fptr [.int .i64 i.e.a6, .str i.e.s7, .str i.e.s8, i.e.fd]) := id rfl
  have q7 : dFieldAddr tab ty31 7 (.fptr (evr i.e)) = some (.fptr [.str i.e.s7, .str i.e.s8, i.e.fd]) := id rfl
  have q8 : dFieldAddr tab ty31 8 (.fptr (evr i.e)) = some (.fptr [.str i.e.s8, i.e.fd]) := id rfl
  have q9 : dFieldAddr tab ty31 9 (.fptr (evr i.e)) = some (.fptr [i.e.fd]) := id rfl
  rw [e1004]
  simp only [F1004, pBoxF_agg, bs, Option.bind_assoc, itF0, itF1, itL0, evL, hbx, dBin_seql, mkRes_one]
  unfold itR
  by_cases c0 : i.r = []
  · simp only [c0, beq_self_eq_true, dIf_bool, if_true, s1010g i.e h hb, bs]
    exact .some rfl
  have c0' : (i.r == []) = false := by simpa using c0
  simp only [c0, c0', dIf_bool, Bool.false_eq_true, if_false, len9, bs, dBin_gtr]
  by_cases c1 : 32 < i.r.length
  · have c1' : (i.r.length : Int) > 32 := by omega
    simp only [c1, c1', decide_true, if_true]
    exact .some rfl
  have c1' : ¬ (i.r.length : Int) > 32 := by omega
  simp only [c1, c1', decide_false, Bool.false_eq_true, if_false, s1011g, bs, dBin_neq, ne_eq]
  by_cases c2 : plB i.e = true
  case neg =>
    have c2' : plB i.e = false := by simpa using c2
    simp only [c2', Bool.false_eq_true, if_false, show ¬ (2 : Int) = 0 by omega, not_false_eq_true, decide_true, dIf_bool, if_true]
    exact .some rfl
  simp only [c2, if_true, not_true, decide_false, dIf_bool, Bool.false_eq_true, Bool.true_eq_false, if_false, s1012g, bs, dBin_neq, ne_eq]
  generalize linesE i.e 20000 = L
  by_cases c3 : L ≠ 0 ∧ L ≠ 3
  · obtain ⟨c4, c5⟩ := c3
    simp only [ne_eq, c4, c5, not_false_eq_true, decide_true, gd_bool, if_true, bs, dPick_bool, dIf_bool, and_self, dBin_neq]
    exact .some rfl
  have c3' : decide (¬ L = 0) = true → decide (¬ L = 3) = false := by
    intro q
    have q : ¬ L = 0 := by simpa using q
    by_cases h3 : L = 3
    · simp [-bind_some, h3]
    · exact absurd ⟨q, h3⟩ c3
  rw [if_neg (by simpa [-bind_some, ne_eq] using c3)]
  have step : ∀ (K : D → Option (D × Hp)), ((gd (.bool (decide (¬ L = 0))) true (some (.int .i64 L))).bind fun t29 => (gd (.bool (decide (¬ L = 0))) true (dBin tab .neq ty49 t29 (.int .i64 3))).bind fun t30 => (dPick (.bool (decide (¬ L = 0))) t30 (.bool false)).bind K) = K (.bool false) := by
    intro K
    cases hq : decide (¬ L = 0) with
    | false => simp only [gd_bool, Bool.false_eq_true, if_false, reduceCtorEq, bs, dPick_bool]
    | true => simp only [gd_bool, if_true, bs, dBin_neq, ne_eq, c3' hq, dPick_bool]
  rw [step]
  simp only [dIf_bool, Bool.false_eq_true, if_false, q5, q6, q7, q8, q9, ld3, ld9, ld29, bs, dBin_neq, dBin_sneq, lens29 i.e.hfd, Option.bind_assoc, ne_eq]
  have hfl : (i.e.fs.length : Int) = 0 ↔ i.e.fs.length = 0 := by omega
  by_cases d1n : ¬ i.e.a5 = 0
  · simp only [d1n, not_false_eq_true, true_or, decide_true, gd_bool, gd_und, reduceCtorEq, if_true, Bool.true_eq_false, if_false, bs, dPick_bool, dIf_bool]
    exact .some rfl
  have d1 : i.e.a5 = 0 := Decidable.not_not.1 d1n
  by_cases d2n : ¬ i.e.a6 = 0
  · simp only [d1, d2n, not_true, not_false_eq_true, true_or, false_or, decide_true, decide_false, gd_bool, gd_und, q6, ld3, dBin_neq, ne_eq, reduceCtorEq, if_true, Bool.true_eq_false, Bool.false_eq_true, if_false, bs, dPick_bool, dIf_bool]
    exact .some rfl
  have d2 : i.e.a6 = 0 := Decidable.not_not.1 d2n
  by_cases d3n : ¬ i.e.s7 = []
  · have d3b : (i.e.s7 == []) = false := by simpa using d3n
    simp only [d1, d2, d3n, d3b, not_true, not_false_eq_true, true_or, false_or, decide_true, decide_false, gd_bool, gd_und, q6, q7, ld3, ld9, dBin_neq, dBin_sneq, ne_eq, Bool.not_false, reduceCtorEq, if_true, Bool.true_eq_false, Bool.false_eq_true, if_false, bs, dPick_bool, dIf_bool]
    exact .some rfl
  have d3 : i.e.s7 = [] := Decidable.not_not.1 d3n
  by_cases d4n : ¬ i.e.s8 = []
  · have d4b : (i.e.s8 == []) = false := by simpa using d4n
    simp only [d1, d2, d3, d4n, d4b, not_true, not_false_eq_true, true_or, false_or, decide_true, decide_false, gd_bool, gd_und, q6, q7, q8, ld3, ld9, dBin_neq, dBin_sneq, ne_eq, beq_self_eq_true, Bool.not_true, Bool.not_false, reduceCtorEq, if_true, Bool.true_eq_false, Bool.false_eq_true, if_false, bs, dPick_bool, dIf_bool]
    exact .some rfl
  have d4 : i.e.s8 = [] := Decidable.not_not.1 d4n
  by_cases d5n : ¬ i.e.fs.length = 0
  · simp only [d1, d2, d3, d4, d5n, hfl, not_true, not_false_eq_true, true_or, false_or, decide_true, decide_false, gd_bool, gd_und, q6, q7, q8, q9, ld3, ld9, ld29, lens29 i.e.hfd, dBin_neq, dBin_sneq, ne_eq, beq_self_eq_true, Bool.not_true, Bool.not_false, reduceCtorEq, if_true, Bool.true_eq_false, Bool.false_eq_true, if_false, bs, dPick_bool, dIf_bool]
    exact .some rfl
  have d5 : i.e.fs.length = 0 := Decidable.not_not.1 d5n
  simp only [d1, d2, d3, d4, d5, hfl, not_true, false_or, decide_false, gd_bool, gd_und, q6, q7, q8, q9, ld3, ld9, ld29, lens29 i.e.hfd, dBin_neq, dBin_sneq, ne_eq, beq_self_eq_true, Bool.not_true, reduceCtorEq, if_true, Bool.false_eq_true, if_false, bs, dPick_bool, dIf_bool]
  refine l1004 i.e h _ _ _ (fun hv x y z => ?_) (fun hv x y z => ?_)
  · simp only [unblk_self, toEnd_nrm, bs, mkRes_one, hv, Bool.false_eq_true, if_false]
    exact .some rfl
  · simp only [unblk_ret, toEnd_ret, exEnd_ret, nth_zero, bs, mkRes_one, hv, if_true]
    exact .some rfl
theorem m119 {h : Hp} {o : Nat} (hc : CM h o) : ∃ v h', R fn119 [.ptr o 0 0] h = some (.int .i64 v, h') ∧ CM h' o ∧ Same o h h' := by
  suffices Wp (R fn119 [.ptr o 0 0] h) (fun p => ∃ v, p.1 = .int .i64 v ∧ CM p.2 o ∧ Same o h p.2) by
    obtain ⟨⟨x, h'⟩, h1, v, rfl, h2⟩ := this
    exact ⟨v, h', h1, h2⟩
  have hsl : SlOf 1 inr lt82_41 (.sl 1 true (lt82_41.map fun n => [.int .i64 n])) := .mk _ _ _ _
  rw [e119]
  simp only [F119, bs, Option.bind_assoc, lt82_41_ok]
  obtain ⟨v, h1, e1, c1, s1, v0, v1⟩ := m39 hc 4 (by omega) (by omega)
  simp only [e1, bs, dBin_eql]
  refine Wp.dif ?_ ?_
  · intro _
    obtain ⟨w, h2, e2, c2, s2, w0, w1⟩ := m39 c1 12 (by omega) (by omega)
    obtain ⟨z, hz⟩ : ∃ z, lt82_41[w.toNat]? = some z := ⟨_, List.getElem?_eq_getElem (by rw [lt82_41_len]; omega)⟩
    have hln : dLenT tab ty82 (.sl 1 true (lt82_41.map fun n => [.int .i64 n])) = some (.int .i64 12) := lens82 hsl
    have hix : dIndexAddr tab ty82 (.sl 1 true (lt82_41.map fun n => [.int .i64 n])) (.int .i64 w) = some (.fptr [.int .i64 z]) := by
      rw [ixs82 hsl, if_pos w0, hz]; rfl
    simp only [bs, hln, e2, hix, ld3, mkRes_one]
    exact .some ⟨z, rfl, c2, s1.trans s2⟩
  · intro _
    obtain ⟨w, h2, e2, c2, s2, w0, w1⟩ := m39 c1 60 (by omega) (by omega)
    simp only [bs, e2, dBin_sub, mkRes_one]
    exact .some ⟨_, rfl, c2, s1.trans s2⟩
structure RB (n m : Nat) (x : RI) : Prop where
  r : x.r.length ≤ 1000
  t7 : x.t7.length ≤ 1000
  t8 : x.t8.length ≤ 1000
  fs : x.fs.length ≤ n
  ls : x.ls.length ≤ m
  lt : ∀ l ∈ x.ls, l.txt.length ≤ 1000
  ft : ∀ p ∈ x.fs, p.1.length ≤ 1000 ∧ p.2.length ≤ 1000
theorem RB.le {n m n' m' : Nat} {x : RI} (h : RB n m x) (h1 : n ≤ n') (h2 : m ≤ m') : RB n' m' x := ⟨h.r, h.t7, h.t8, Nat.le_trans h.fs h1, Nat.le_trans h.ls h2, h.lt, h.ft⟩
def evx (x : RI) (ld fd : D) : List D := [.int .i64 x.a0, .int .i64 x.a1, .int .i64 x.a2, .int .i64 x.a3, ld, .int .i64 x.a5, .int .i64 x.a6, .str x.t7, .str x.t8, fd]
structure Sp (h : Hp) (o : Nat) (g : Hp) (n m : Nat) (x : RI) (ld fd : D) : Prop where
  s : Sm h o g
  hl : h.length + 3 ≤ g.length
  b1 : ∃ e : Ev, g[h.length]? = some (.row ty74 11 [.str x.r :: evr e])
  b2 : g[h.length + 1]? = some (.row ty74 11 [itr zit])
  b3 : g[h.length + 2]? = some (.row ty31 10 [evx x ld fd])
  ol : Own g (h.length + 3) ty78 3 (x.ls.map linr) ld
  ow : Own g (h.length + 3) ty109 2 (x.fs.map fld) fd
  ne : ∀ q, ld.inOb q → fd.inOb q → False
  B : RB n m x
theorem Sp.draw {h g g' : Hp} {o n m : Nat} {x : RI} {ld fd : D} (S : Sp h o g n m x ld fd) (c : CM g' o) (s : Same o g g') : Sp h o g' n m x ld fd := by
  have ho := S.s.lt
  obtain ⟨e, he⟩ := S.b1
  exact ⟨S.s.next c s, by rw [s.1]; exact S.hl, ⟨e, by rw [s.2 _ (by omega)]; exact he⟩, by rw [s.2 _ (by omega)]; exact S.b2, by rw [s.2 _ (by omega)]; exact S.b3, S.ol.keep fun q hq _ => s.2 q (by omega), S.ow.keep fun q hq _ => s.2 q (by omega), S.ne, S.B⟩
theorem Sp.upd {h g g' : Hp} {o n m n' m' : Nat} {x x' : RI} {ld fd : D} (S : Sp h o g n m x ld fd) (s : Same (h.length + 2) g g') (p : g'[h.length + 2]? = some (.row ty31 10 [evx x' ld fd])) (hr : x'.r = x.r) (hls : x'.ls = x.ls) (hfs : x'.fs = x.fs) (B : RB n' m' x') : Sp h o g' n' m' x' ld fd := by
  have ho := S.s.lt
  obtain ⟨e, he⟩ := S.b1
  exact ⟨S.s.app (by rw [s.1]; exact Nat.le_refl _) fun q hq => s.2 q (by omega), by rw [s.1]; exact S.hl, ⟨e, by rw [s.2 _ (by omega), hr]; exact he⟩, by rw [s.2 _ (by omega)]; exact S.b2, p, by rw [hls]; exact S.ol.keep fun q hq _ => s.2 q (by omega), by rw [hfs]; exact S.ow.keep fun q hq _ => s.2 q (by omega), S.ne, B⟩
theorem Sp.wk {h g : Hp} {o n m n' m' : Nat} {x : RI} {ld fd : D} (q : Sp h o g n m x ld fd) (h1 : n ≤ n') (h2 : m ≤ m') : Sp h o g n' m' x ld fd := ⟨q.s, q.hl, q.b1, q.b2, q.b3, q.ol, q.ow, q.ne, q.B.le h1 h2⟩
theorem Sp.re {h g g' : Hp} {o n m n' m' : Nat} {x x' : RI} {ld fd ld' fd' : D} (S : Sp h o g n m x ld fd) (hlen : g.length ≤ g'.length) (low : ∀ q, q < h.length + 2 → g'[q]? = g[q]?) (p : g'[h.length + 2]? = some (.row ty31 10 [evx x' ld' fd'])) (ol : Own g' (h.length + 3) ty78 3 (x'.ls.map linr) ld') (ow : Own g' (h.length + 3) ty109 2 (x'.fs.map fld) fd')
    (ne : ∀ q, ld'.inOb q → fd'.inOb q → False) (hr : x'.r = x.r) (B : RB n' m' x') : Sp h o g' n' m' x' ld' fd' := by
  have ho := S.s.lt
  have hl := S.hl
  obtain ⟨e, he⟩ := S.b1
  exact ⟨S.s.app hlen fun q hq => low q (by omega), by omega, ⟨e, by rw [low _ (by omega), hr]; exact he⟩, by rw [low _ (by omega)]; exact S.b2, p, ol, ow, ne, B⟩
theorem sp_set (x : RI) (ld fd : D) (k : Nat) (v : D) (hv : v.one = true) (hk : k < 10) : ([evx x ld fd].set 0 (spl (evx x ld fd) (0 + k) (cells1 v))) = [(evx x ld fd).set k v] := by
  rw [Nat.zero_add, set_spl _ _ _ hv (by simp [-bind_some, evx]; omega)]; rfl
theorem Sp.ld4 {h g : Hp} {o n m : Nat} {x : RI} {ld fd : D} (S : Sp h o g n m x ld fd) : dLoad tab g ty28 (.ptr (h.length + 2) 0 (0 + 4)) = some ld := by
  rw [ldp28, row_of S.b3]; rfl
theorem Sp.ld9 {h g : Hp} {o n m : Nat} {x : RI} {ld fd : D} (S : Sp h o g n m x ld fd) : dLoad tab g ty29 (.ptr (h.length + 2) 0 (0 + 9)) = some fd := by
  rw [ldp29, row_of S.b3]; rfl
theorem Sp.ld3 {h g : Hp} {o n m : Nat} {x : RI} {ld fd : D} (S : Sp h o g n m x ld fd) : dLoad tab g ty3 (.ptr (h.length + 2) 0 (0 + 3)) = some (.int .i64 x.a3) := by
  rw [ldp3, row_of S.b3]; rfl
theorem Sp.lset {h g g' : Hp} {o n m : Nat} {x x' : RI} {ld fd : D} (S : Sp h o g n m x ld fd) {ob : Nat} (hob : ld.inOb ob) (s : Same ob g g') (hg : Own g' (h.length + 3) ty78 3 (x'.ls.map linr) ld) (hx : x' = { x with ls := x'.ls }) (B : RB n m x') : Sp h o g' n m x' ld fd := by
  have ho := S.s.lt
  have hlt := S.ol.lt hob
  obtain ⟨e, he⟩ := S.b1
  have h1 : x'.r = x.r := by rw [hx]
  have h2 : x'.fs = x.fs := by rw [hx]
  have h3 : evx x' ld fd = evx x ld fd := by rw [hx]; rfl
  exact ⟨S.s.app (by rw [s.1]; exact Nat.le_refl _) fun q hq => s.2 q (by omega), by rw [s.1]; exact S.hl, ⟨e, by rw [s.2 _ (by omega), h1]; exact he⟩, by rw [s.2 _ (by omega)]; exact S.b2, by rw [s.2 _ (by omega), h3]; exact S.b3, hg,
    by rw [h2]; exact S.ow.keep fun q hq hin => s.2 q fun hh => S.ne ob hob (by rw [← hh]; exact hin), S.ne, B⟩
theorem sp_lvl {b : Bool} {x y : Option Out} {f : Out → List D} {P : Hp → Prop} (hx : b = true → Wp x fun r => r.1 = .nrm ∧ P r.2.2) (hy : b = false → Wp y fun r => r.1 = .nrm ∧ P r.2.2) :
    Wp ((dIf (.bool b) x y).bind fun r => some (r.1, f r, r.2.2)) (fun r => r.1 = .nrm ∧ P r.2.2) := by
  refine Wp.join hx hy fun a ha => ?_
  exact .some ha
theorem m1123 {h : Hp} {o : Nat} (hc : CM h o) {n m : Nat} (hn : n ≤ 1000) (hm : m ≤ 1000) (i : It) (hB : RB n m (riOf i)) : ∃ (j : It) (h' : Hp), R fn1123 [.ptr o 0 0, .agg (itr i)] h = some (.agg (itr j), h') ∧ CM h' o ∧ Same o h h' ∧ RB (n + 1) (max m 41) (riOf j) := by
  suffices Wp (R fn1123 [.ptr o 0 0, .agg (itr i)] h) (fun p => ∃ j : It, p.1 = .agg (itr j) ∧ CM p.2 o ∧ Same o h p.2 ∧ RB (n + 1) (max m 41) (riOf j)) by
    obtain ⟨⟨x, h'⟩, h1, j, rfl, h2⟩ := this
    exact ⟨j, h', h1, h2⟩
  have ho := hc.lt
  have hz74 : ([.str [], .int .i64 0, .int .i64 0, .int .i64 0, .int .i64 0, .nils, .int .i64 0, .int .i64 0, .str [], .str [], .nils] : List D) = itr zit := rfl
  have hls := hB.ls
  have hfs := hB.fs
  have hls : i.e.ls.length ≤ m := hls
  have hfs : i.e.fs.length ≤ n := hfs
  rw [e1123]
  simp only [F1123, hz74, wBox_agg ty74 11 h (itr i) rfl (by omega), bs, Option.bind_assoc]
  -- the three variables
  have a0 : (dNew h ty74 11 [itr i])[h.length]? = some (.row ty74 11 [itr i]) := dNew_get _ _ _ _
  have k0 : ∀ q, q < h.length → (dNew h ty74 11 [itr i])[q]? = h[q]? := fun q hq => dNew_old _ _ _ _ hq
  have l0 : (dNew h ty74 11 [itr i]).length = h.length + 1 := by simp [-bind_some, dNew]
  generalize dNew h ty74 11 [itr i] = g0 at *
  have a1 : (dNew g0 ty74 11 [itr zit])[h.length + 1]? = some (.row ty74 11 [itr zit]) := by rw [← l0]; exact dNew_get _ _ _ _
  have k1 : ∀ q, q < h.length + 1 → (dNew g0 ty74 11 [itr zit])[q]? = g0[q]? := fun q hq => dNew_old _ _ _ _ (by omega)
  have l1 : (dNew g0 ty74 11 [itr zit]).length = h.length + 2 := by simp [-bind_some, dNew, l0]
  rw [l0]
  generalize dNew g0 ty74 11 [itr zit] = g1 at *
  have a0' : g1[h.length]? = some (.row ty74 11 [itr i]) := by rw [k1 _ (by omega)]; exact a0
  have le1 : dLoad tab g1 ty31 (.ptr h.length 0 (0 + 1)) = some (.agg (evr i.e)) := by rw [ldp31, row_of a0']; rfl
  simp only [fap74_1, le1, bs, l1]
  have a2 : ∀ r, (dNew g1 ty31 10 [r])[h.length + 2]? = some (.row ty31 10 [r]) := fun r => by rw [← l1]; exact dNew_get _ _ _ _
  have k2 : ∀ r q, q < h.length + 2 → (dNew g1 ty31 10 [r])[q]? = g1[q]? := fun r q hq => dNew_old _ _ _ _ (by omega)
  have l2a : ∀ r, (dNew g1 ty31 10 [r]).length = h.length + 3 := fun r => by simp [-bind_some, dNew, l1]
  refine wst31 (kk := 0) (off := 0) (v := .agg (evr i.e)) (a2 _) (by rfl) (by rfl) (by simp) (by rfl) fun g2 p2 s2 => ?_
  replace p2 : g2[h.length + 2]? = some (.row ty31 10 [evr i.e]) := p2
  have l2 := s2.1.trans (l2a _)
  have c0 : g2[h.length]? = some (.row ty74 11 [itr i]) := by rw [s2.2 _ (by omega), k2 _ _ (by omega), k1 _ (by omega)]; exact a0
  have c1 : g2[h.length + 1]? = some (.row ty74 11 [itr zit]) := by rw [s2.2 _ (by omega), k2 _ _ (by omega)]; exact a1
  have c9 : ∀ q, q < h.length → g2[q]? = h[q]? := fun q hq => by rw [s2.2 _ (by omega), k2 _ _ (by omega), k1 _ (by omega), k0 _ hq]
  clear a0 a0' a1 a2 k0 k1 k2 le1 s2 l0
  have le2 : dLoad tab g2 ty28 (.ptr (h.length + 2) 0 (0 + 4)) = some i.e.ld := by rw [ldp28, row_of p2]; rfl
  simp only [fap31_4, le2, bs]
  refine wap28 (n0 := h.length + 3) (rows := []) (by omega) (.nils _ _ _ _) (slof_rows _ i.e.hld) (by simp only [List.length_map, List.length_nil]; omega) fun x3 g3 o3 l3 k3 _ _ => ?_
  rw [List.nil_append] at o3
  try simp only [bs]
  refine wst28 (kk := 0) (off := 0 + 4) (row := evr i.e) (v := x3) (by rw [k3 _ (by omega)]; exact p2) (by rfl) (by rw [(one_cells (own_one o3)).1]; rfl) (by simp [-bind_some, evr]) (one_cells (own_one o3)).2 fun g4 p4 s4 => ?_
  have hs4 : ([evr i.e].set 0 (spl (evr i.e) (0 + 4) (cells1 x3))) = [evx (riOf i) x3 i.e.fd] := by rw [Nat.zero_add, set_spl _ _ _ (own_one o3) (by simp [-bind_some, evr])]; rfl
  rw [hs4] at p4
  have o4 : Own g4 (h.length + 3) ty78 3 (i.e.ls.map linr) x3 := o3.keep fun q hq _ => s4.2 q (by omega)
  have le4 : dLoad tab g4 ty29 (.ptr (h.length + 2) 0 (0 + 9)) = some i.e.fd := by rw [ldp29, row_of p4]; rfl
  simp only [fap31_9, le4, bs]
  have l4 : h.length + 3 ≤ g4.length := by rw [s4.1]; omega
  refine wap29 (n0 := g4.length) (rows := []) (Nat.le_refl _) (.nils _ _ _ _) (slof_rows _ i.e.hfd) (by simp only [List.length_map, List.length_nil]; omega) fun x5 g5 o5 l5 k5 _ _ => ?_
  rw [List.nil_append] at o5
  try simp only [bs]
  have hne : ∀ q, x3.inOb q → x5.inOb q → False := fun q h1 h2 => by
    have := (o4.lt h1).2
    have := (o5.lt h2).1
    omega
  refine wst29 (kk := 0) (off := 0 + 9) (row := evx (riOf i) x3 i.e.fd) (v := x5) (by rw [k5 _ (by omega)]; exact p4) (by rfl) (by rw [(one_cells (own_one o5)).1]; rfl) (by simp [-bind_some, evx]) (one_cells (own_one o5)).2 fun g6 p6 s6 => ?_
  have hs6 : ([evx (riOf i) x3 i.e.fd].set 0 (spl (evx (riOf i) x3 i.e.fd) (0 + 9) (cells1 x5))) = [evx (riOf i) x3 x5] := by rw [sp_set _ _ _ _ _ (own_one o5) (by omega)]; rfl
  rw [hs6] at p6
  have low : ∀ q, q < h.length + 2 → g6[q]? = g2[q]? := fun q hq => by rw [s6.2 _ (by omega), k5 _ (by omega), s4.2 _ (by omega), k3 _ (by omega)]
  have S0 : Sp h o g6 n m (riOf i) x3 x5 :=
    ⟨⟨ho, hc.keep (by rw [low _ (by omega), c9 _ ho]), ⟨by rw [s6.1]; omega, fun q hq _ => by rw [low _ (by omega), c9 _ hq]⟩⟩, by rw [s6.1]; omega, ⟨i.e, by rw [low _ (by omega)]; exact c0⟩, by rw [low _ (by omega)]; exact c1, p6,
      o4.keep fun q hq hin => by rw [s6.2 _ (by omega), k5 _ (o4.lt hin).2], (o5.from l4).keep fun q hq hin => s6.2 q (by omega), hne, hB⟩
  clear p6 low hs6 s6 hne o5 k5 l5 le4 o4 p4 hs4 s4 o3 k3 l3 le2 c0 c1 c9 p2
  -- the choice
  obtain ⟨v, g7, e7, c7, s7, v0, v1⟩ := m39 S0.s.cd 13 (by omega) (by omega)
  replace S0 := S0.draw c7 s7
  simp only [e7, bs, dBin_eql, fap31_0, fap31_1, fap31_2, fap31_3, fap31_5, fap31_6, fap31_7, fap74_0, fap74_1]
  clear e7 s7 c7 l4 l2
  refine Wp.bind (P := fun r => r.1 = .nrm ∧ ∃ x ld fd, Sp h o r.2.2 (n + 1) (max m 41) x ld fd) ?_ ?_
  · -- an int
    have ib : ∀ (k : Nat) (y : Int → RI) (L : List D), (∀ v, (evx (riOf i) x3 x5).set k (.int .i64 v) = evx (y v) x3 x5) → (∀ v, (y v).r = (riOf i).r ∧ (y v).ls = (riOf i).ls ∧ (y v).fs = (riOf i).fs ∧ RB n m (y v)) → k < 10 →
        Wp ((R fn119 [.ptr o 0 0] g7).bind fun p => (dStore tab p.2 ty3 (.ptr (h.length + 2) 0 (0 + k)) p.1).bind fun h' => some ((.nrm, L, h') : Out)) (fun r => r.1 = .nrm ∧ ∃ x ld fd, Sp h o r.2.2 (n + 1) (max m 41) x ld fd) := by
      intro k y L hy hyb hk
      obtain ⟨w, g8, e8, c8, s8⟩ := m119 S0.s.cd
      have S1 := S0.draw c8 s8
      rw [e8]
      simp only [bs]
      refine wst3 (kk := 0) (off := 0 + k) (row := evx (riOf i) x3 x5) S1.b3 (by rfl) (by rfl) (by simp [-bind_some, evx]; omega) (by rfl) fun g9 p9 s9 => ?_
      rw [sp_set _ _ _ _ _ rfl hk, hy] at p9
      obtain ⟨y1, y2, y3, y4⟩ := hyb w
      exact .some ⟨rfl, _, _, _, S1.upd s9 p9 y1 y2 y3 (y4.le (by omega) (by omega))⟩
    have Bi : ∀ a0 a1 a2 a3 a5 a6, RB n m { riOf i with a0 := a0, a1 := a1, a2 := a2, a3 := a3, a5 := a5, a6 := a6 } := fun _ _ _ _ _ _ => ⟨hB.r, hB.t7, hB.t8, hB.fs, hB.ls, hB.lt, hB.ft⟩
    -- a line
    have lb : ∀ (k : Nat) (y : Int → Lin → Lin) (L : List D), (∀ v l, (linr l).set k (.int .i64 v) = linr (y v l)) → (∀ v l, (y v l).txt = l.txt) → k < 3 → ∀ w : Int, 0 ≤ w → w < i.e.ls.length → ∀ g8, Sp h o g8 n m (riOf i) x3 x5 → ∀ z : Int, ∃ ob, dIndexAddr tab ty28 x3 (.int .i64 w) = some (.ptr ob w.toNat 0) ∧ 
        ∀ A B : Prop, A → B → Wp ((dStore tab g8 ty3 (.ptr ob w.toNat (0 + k)) (.int .i64 z)).bind fun h' => chk A (chk B (some ((.nrm, L, h') : Out)))) (fun r => r.1 = .nrm ∧ ∃ x ld fd, Sp h o r.2.2 (n + 1) (max m 41) x ld fd) := by
      intro k y L hy hyt hk w w0 w1 g8 S1 z
      rcases S1.ol with ⟨_, hh⟩ | ⟨ob, hob, hd, hg⟩
      · have : i.e.ls = [] := by simpa [-bind_some, riOf] using hh
        rw [this] at w1
        simp at w1; omega
      have hlen : ((riOf i).ls.map linr).length = i.e.ls.length := by simp [-bind_some, riOf]
      rw [hlen] at hd
      obtain ⟨l, hl⟩ : ∃ l, i.e.ls[w.toNat]? = some l := ⟨_, List.getElem?_eq_getElem (by omega)⟩
      have hin : x3.inOb ob := ⟨_, _, hd⟩
      refine ⟨ob, by rw [hd, ixm28, if_pos ⟨w0, w1⟩]; simp [-bind_some], fun A B hA hB' => ?_⟩
      refine wst3 (kk := w.toNat) (off := 0 + k) (row := linr l) hg (by rw [List.getElem?_map, show (riOf i).ls[w.toNat]? = some l from hl]; rfl) (by rfl) (by simp [-bind_some, linr]; omega) (by rfl) fun g9 p9 s9 => ?_
      have hset : ((riOf i).ls.map linr).set w.toNat (spl (linr l) (0 + k) (cells1 (.int .i64 z))) = (((riOf i).ls.set w.toNat (y z l)).map linr) := by
        rw [Nat.zero_add, set_spl _ _ _ rfl (by simp [-bind_some, linr]; omega), hy, List.map_set]
      rw [hset] at p9
      have hlm : ((riOf i).ls.set w.toNat (y z l)).length = (riOf i).ls.length := by simp
      have hmem : ∀ q ∈ (riOf i).ls.set w.toNat (y z l), q.txt.length ≤ 1000 := fun q hq => by
        rcases List.mem_or_eq_of_mem_set hq with hq | rfl
        · exact hB.lt q hq
        · rw [hyt]; exact hB.lt l (List.mem_of_getElem? hl)
      rw [chk_true _ _ hA, chk_true _ _ hB']
      exact .some ⟨rfl, { riOf i with ls := (riOf i).ls.set w.toNat (y z l) }, _, _, (S1.lset (x' := { riOf i with ls := (riOf i).ls.set w.toNat (y z l) }) hin s9 (.inr ⟨ob, hob, by rw [List.length_map, hlm, hd]; rfl, p9⟩) rfl ⟨hB.r, hB.t7, hB.t8, hB.fs, by rw [hlm]; exact hB.ls, hmem, hB.ft⟩)|>.wk (by omega) (by omega)⟩
    refine Wp.dif (fun _ => ib 0 (fun v => { riOf i with a0 := v }) _ (fun _ => rfl) (fun v => ⟨rfl, rfl, rfl, Bi v _ _ _ _ _⟩) (by omega)) fun _ => ?_
    refine sp_lvl (P := fun g => ∃ x ld fd, Sp h o g (n + 1) (max m 41) x ld fd) (fun _ => ib 1 (fun v => { riOf i with a1 := v }) _ (fun _ => rfl) (fun v => ⟨rfl, rfl, rfl, Bi _ v _ _ _ _⟩) (by omega)) fun _ => ?_
    refine sp_lvl (P := fun g => ∃ x ld fd, Sp h o g (n + 1) (max m 41) x ld fd) (fun _ => ib 2 (fun v => { riOf i with a2 := v }) _ (fun _ => rfl) (fun v => ⟨rfl, rfl, rfl, Bi _ _ v _ _ _⟩) (by omega)) fun _ => ?_
    refine sp_lvl (P := fun g => ∃ x ld fd, Sp h o g (n + 1) (max m 41) x ld fd) (fun _ => ib 3 (fun v => { riOf i with a3 := v }) _ (fun _ => rfl) (fun v => ⟨rfl, rfl, rfl, Bi _ _ _ v _ _⟩) (by omega)) fun _ => ?_
    refine sp_lvl (P := fun g => ∃ x ld fd, Sp h o g (n + 1) (max m 41) x ld fd) (fun _ => ib 5 (fun v => { riOf i with a5 := v }) _ (fun _ => rfl) (fun v => ⟨rfl, rfl, rfl, Bi _ _ _ _ v _⟩) (by omega)) fun _ => ?_
    refine sp_lvl (P := fun g => ∃ x ld fd, Sp h o g (n + 1) (max m 41) x ld fd) (fun _ => ib 6 (fun v => { riOf i with a6 := v }) _ (fun _ => rfl) (fun v => ⟨rfl, rfl, rfl, Bi _ _ _ _ _ v⟩) (by omega)) fun _ => ?_
    have hlen : dLenT tab ty28 x3 = some (.int .i64 (i.e.ls.length : Int)) := by rw [leno28 S0.ol, List.length_map]; rfl
    have Z : ∀ L : List D, Wp (some ((.nrm, L, g7) : Out)) (fun r => r.1 = .nrm ∧ ∃ x ld fd, Sp h o r.2.2 (n + 1) (max m 41) x ld fd) := fun L => .some ⟨rfl, _, _, _, S0.wk (by omega) (by omega)⟩
    refine sp_lvl (P := fun g => ∃ x ld fd, Sp h o g (n + 1) (max m 41) x ld fd) (fun _ => ?_) fun _ => ?_
    · simp only [S0.ld4, hlen, bs, dBin_gtr]
      refine sp_lvl (P := fun g => ∃ x ld fd, Sp h o g (n + 1) (max m 41) x ld fd) (fun hp => ?_) fun _ => Z _
      have hp : 0 < i.e.ls.length := by have : (i.e.ls.length : Int) > 0 := by simpa using hp
                                        omega
      obtain ⟨w, g8, e8, c8, s8, w0, w1⟩ := m39 S0.s.cd (i.e.ls.length : Int) (by omega) (by omega)
      have S1 := S0.draw c8 s8
      obtain ⟨z, g9, e9, c9, s9⟩ := m119 S1.s.cd
      have S2 := S1.draw c9 s9
      obtain ⟨ob, hix, hw⟩ := lb 0 (fun v l => { l with off := v }) [] (fun _ _ => rfl) (fun _ _ => rfl) (by omega) w w0 w1 g9 S2 z
      simp only [e8, e9, hix, fap78_0, bs]
      exact hw _ _ S1.ld4 S2.ld4
    refine sp_lvl (P := fun g => ∃ x ld fd, Sp h o g (n + 1) (max m 41) x ld fd) (fun _ => ?_) fun _ => ?_
    · simp only [S0.ld4, hlen, bs, dBin_gtr]
      refine sp_lvl (P := fun g => ∃ x ld fd, Sp h o g (n + 1) (max m 41) x ld fd) (fun hp => ?_) fun _ => Z _
      have hp : 0 < i.e.ls.length := by have : (i.e.ls.length : Int) > 0 := by simpa using hp
                                        omega
      obtain ⟨w, g8, e8, c8, s8, w0, w1⟩ := m39 S0.s.cd (i.e.ls.length : Int) (by omega) (by omega)
      have S1 := S0.draw c8 s8
      obtain ⟨z, g9, e9, c9, s9⟩ := m119 S1.s.cd
      have S2 := S1.draw c9 s9
      obtain ⟨ob, hix, hw⟩ := lb 1 (fun v l => { l with len := v }) [] (fun _ _ => rfl) (fun _ _ => rfl) (by omega) w w0 w1 g9 S2 z
      simp only [e8, e9, hix, fap78_1, bs]
      exact hw _ _ S1.ld4 S2.ld4
    -- no lines
    refine sp_lvl (P := fun g => ∃ x ld fd, Sp h o g (n + 1) (max m 41) x ld fd) (fun _ => ?_) fun _ => ?_
    · refine wst28 (kk := 0) (off := 0 + 4) (row := evx (riOf i) x3 x5) S0.b3 (by rfl) (by rfl) (by simp [-bind_some, evx]) (by rfl) fun g9 p9 s9 => ?_
      rw [sp_set _ _ _ _ _ rfl (by omega)] at p9
      have hl := S0.hl
      exact .some ⟨rfl, { riOf i with ls := [] }, .nils, x5, S0.re (x' := { riOf i with ls := [] }) (by rw [s9.1]; exact Nat.le_refl _) (fun q hq => s9.2 q (by omega)) p9 (.nils _ _ _ _) (S0.ow.keep fun q hq _ => s9.2 q (by omega)) (fun q ⟨_, _, hq⟩ => by cases hq) rfl ⟨hB.r, hB.t7, hB.t8, by have := hB.fs; show (riOf i).fs.length ≤ _; omega, Nat.zero_le _, fun l hl => (by cases hl), hB.ft⟩⟩
    -- a field more
    refine sp_lvl (P := fun g => ∃ x ld fd, Sp h o g (n + 1) (max m 41) x ld fd) (fun _ => ?_) fun _ => ?_
    · simp only [S0.ld9, lt98_38_ok, bs]
      refine pick_wp S0.s.cd lt98_38 10 (by decide) (by decide) (by decide) fun s g8 c8 s8 hs hs2 => ?_
      have S1 := S0.draw c8 s8
      obtain ⟨u, g9, e9, c9, s9, hu⟩ := m83 S1.s.cd 3 (by omega) (by omega)
      have S2 := S1.draw c9 s9
      simp only [e9, bs, bd109_0_1, bs29_1]
      have hl := S2.hl
      refine wap29 (n0 := h.length + 3) (by omega) S2.ow (rowsOf_sl _ _ _ _) (by simp only [List.length_map, List.length_cons, List.length_nil]; have := hB.fs; omega) fun x10 g10 o10 l10 k10 k10' i10 => ?_
      have ho10 : ((riOf i).fs.map fld ++ [[.str s, .str u]]) = ((riOf i).fs ++ [(s, u)]).map fld := by rw [List.map_append]; rfl
      rw [ho10] at o10
      rw [chk_true _ _ S1.ld9, chk_true _ _ S2.ld9]
      refine wst29 (kk := 0) (off := 0 + 9) (row := evx (riOf i) x3 x5) (v := x10) (by rw [k10 _ (by omega)]; exact S2.b3) (by rfl) (by rw [(one_cells (own_one o10)).1]; rfl) (by simp [-bind_some, evx]) (one_cells (own_one o10)).2 fun g11 p11 s11 => ?_
      rw [sp_set _ _ _ _ _ (own_one o10) (by omega)] at p11
      exact .some ⟨rfl, { riOf i with fs := (riOf i).fs ++ [(s, u)] }, x3, x10, S2.re (x' := { riOf i with fs := (riOf i).fs ++ [(s, u)] }) (by rw [s11.1]; exact l10) (fun q hq => by rw [s11.2 q (by omega)]; exact k10 q (by omega)) p11
        (S2.ol.keep fun q hq hin => by rw [s11.2 q (by omega)]; exact k10' q (S2.ol.lt hin).2 fun hh => S2.ne q hin hh) (o10.keep fun q hq _ => s11.2 q (by omega))
        (fun q h1 h2 => by rcases i10 q h2 with h2 | h2; exact S2.ne q h1 h2; have := (S2.ol.lt h1).2; omega) rfl
        ⟨hB.r, hB.t7, hB.t8, by have := hB.fs; show ((riOf i).fs ++ [(s, u)]).length ≤ _; simp [-bind_some]; omega, by have := hB.ls; show (riOf i).ls.length ≤ _; omega, hB.lt, fun p hp => by
          rcases List.mem_append.1 hp with hp | hp
          · exact hB.ft p hp
          · rw [List.mem_singleton.1 hp]; exact ⟨by show s.length ≤ 1000; omega, by show u.length ≤ 1000; omega⟩⟩⟩
    -- the rule
    refine sp_lvl (P := fun g => ∃ x ld fd, Sp h o g (n + 1) (max m 41) x ld fd) (fun _ => ?_) fun _ => ?_
    · simp only [lt98_39_ok, bs]
      refine pick_wp S0.s.cd lt98_39 100 (by decide) (by decide) (by decide) fun s g8 c8 s8 hs hs2 => ?_
      have S1 := S0.draw c8 s8
      obtain ⟨e, he⟩ := S1.b1
      simp only [bs]
      refine wst9 (kk := 0) (off := 0 + 0) (row := .str (riOf i).r :: evr e) (v := .str s) he (by rfl) (by rfl) (by simp) (by rfl) fun g9 p9 s9 => ?_
      have hl := S1.hl
      have p9 : g9[h.length]? = some (.row ty74 11 [.str s :: evr e]) := p9
      exact .some ⟨rfl, { riOf i with r := s }, x3, x5, ⟨S1.s.app (by rw [s9.1]; exact Nat.le_refl _) fun q hq => s9.2 q (by omega), by rw [s9.1]; exact hl, ⟨e, p9⟩, by rw [s9.2 _ (by omega)]; exact S1.b2, by rw [s9.2 _ (by omega)]; exact S1.b3, S1.ol.keep fun q hq _ => s9.2 q (by omega), S1.ow.keep fun q hq _ => s9.2 q (by omega), S1.ne, ⟨by show s.length ≤ 1000; omega, hB.t7, hB.t8, by have := hB.fs; show (riOf i).fs.length ≤ _; omega, by have := hB.ls; show (riOf i).ls.length ≤ _; omega, hB.lt, hB.ft⟩⟩⟩
    -- the trace
    refine sp_lvl (P := fun g => ∃ x ld fd, Sp h o g (n + 1) (max m 41) x ld fd) (fun _ => ?_) fun _ => ?_
    · simp only [lt98_40_ok, bs]
      refine pick_wp S0.s.cd lt98_40 100 (by decide) (by decide) (by decide) fun s g8 c8 s8 hs hs2 => ?_
      have S1 := S0.draw c8 s8
      simp only [bs]
      refine wst9 (kk := 0) (off := 0 + 7) (row := evx (riOf i) x3 x5) (v := .str s) S1.b3 (by rfl) (by rfl) (by simp [-bind_some, evx]) (by rfl) fun g9 p9 s9 => ?_
      rw [sp_set _ _ _ _ _ rfl (by omega)] at p9
      exact .some ⟨rfl, { riOf i with t7 := s }, x3, x5, S1.upd (x' := { riOf i with t7 := s }) s9 p9 rfl rfl rfl ⟨hB.r, by show s.length ≤ 1000; omega, hB.t8, by have := hB.fs; show (riOf i).fs.length ≤ _; omega, by have := hB.ls; show (riOf i).ls.length ≤ _; omega, hB.lt, hB.ft⟩⟩
    -- many lines
    try simp only [Option.bind_assoc]
    refine Wp.loop (fun k ds g => ∃ a b x ld, ds = [a, b] ∧ Sp h o g (n + 1) (max m 41) x ld x5 ∧ k + x.ls.length = max m 41)
      (fun r => r.1 = .ext 1 ∧ ∃ x ld fd, Sp h o r.2.2 (n + 1) (max m 41) x ld fd) (max m 41 - (riOf i).ls.length) ⟨_, _, _, _, rfl, S0.wk (by omega) (by omega), by have := hB.ls; omega⟩ ?_ ?_
    · rintro k ds g ⟨a, b, x, ld, rfl, S, hk⟩
      have hlx : dLenT tab ty28 ld = some (.int .i64 (x.ls.length : Int)) := by rw [leno28 S.ol, List.length_map]
      have hfin : ∀ L : List D, Wp (some ((.ext 1, L, g) : Out)) fun r => (r.1 = .nrm ∧ ∃ k', k' < k ∧ ∃ a b x ld, r.2.1 = [a, b] ∧ Sp h o r.2.2 (n + 1) (max m 41) x ld x5 ∧ k' + x.ls.length = max m 41) ∨ (r.1 ≠ .nrm ∧ (r.1 = .ext 1 ∧ ∃ x ld fd, Sp h o r.2.2 (n + 1) (max m 41) x ld fd)) := fun L => .some (.inr ⟨by simp, rfl, _, _, _, S⟩)
      simp only [F1123_L0, nth_zero, nth_succ, bs, Option.bind_assoc, fap31_4, fap31_3, S.ld4, hlx, dBin_gtr]
      by_cases h1 : (x.ls.length : Int) > 0
      case neg =>
        simp only [h1, decide_false, gd_bool, reduceCtorEq, Bool.false_eq_true, if_false, bs, dPick_bool, dIf_bool]
        exact hfin _
      by_cases h2 : (x.ls.length : Int) ≤ 40
      case neg =>
        simp only [h1, h2, decide_true, decide_false, gd_bool, if_true, bs, S.ld4, hlx, dBin_leq, dPick_bool, dIf_bool, Bool.false_eq_true, if_false]
        exact hfin _
      have hw1 : IntKind.wrap .i64 ((x.ls.length : Int) - 1) = ((x.ls.length - 1 : Nat) : Int) := by rw [wrap_i64 (by omega) (by omega)]; omega
      obtain ⟨ob, hob, hd, hg⟩ := own_ix S.ol (i := x.ls.length - 1) (by rw [List.length_map]; omega)
      rw [List.length_map] at hd
      obtain ⟨l, hl⟩ : ∃ l, x.ls[x.ls.length - 1]? = some l := ⟨_, List.getElem?_eq_getElem (by omega)⟩
      have hix : dIndexAddr tab ty28 ld (.int .i64 ((x.ls.length - 1 : Nat) : Int)) = some (.ptr ob (x.ls.length - 1) 0) := by
        rw [hd, ixm28, if_pos (by omega)]; simp [-bind_some]
      have hld : dLoad tab g ty78 (.ptr ob (x.ls.length - 1) 0) = some (.agg (linr l)) := by
        rw [ldp78, row_of hg, List.getElem?_map, hl]; rfl
      have hbx : boxN 3 (.agg (linr l)) = some (.fptr (linr l)) := boxN_agg 3 _ rfl
      have q0 : dFieldAddr tab ty78 0 (.fptr (linr l)) = some (.fptr (linr l)) := id rfl
      have q1 : dFieldAddr tab ty78 1 (.fptr (linr l)) = some (.fptr [.int .i64 l.len, .str l.txt]) := id rfl
      have l0 : ∀ g, dLoad tab g ty3 (.fptr (linr l)) = some (.int .i64 l.off) := fun g => id rfl
      simp only [h1, h2, decide_true, gd_bool, if_true, bs, S.ld4, hlx, dBin_leq, dPick_bool, dIf_bool, dBin_sub, hw1, hix, hld, hbx, q0, q1, l0, ld3, dBin_add, bd78_0_1, bs28_1]
      have hl3 := S.hl
      have hll := S.B.ls
      refine wap28 (n0 := h.length + 3) (by omega) S.ol (rowsOf_sl _ _ _ _) (by simp only [List.length_map, List.length_cons, List.length_nil]; omega) fun x10 g10 o10 l10 k10 k10' i10 => ?_
      generalize hln : (⟨IntKind.wrap .i64 (l.off + l.len), 1, []⟩ : Lin) = nl
      have ho10 : (x.ls.map linr ++ [[.int .i64 (IntKind.wrap .i64 (l.off + l.len)), .int .i64 1, .str []]]) = (x.ls ++ [nl]).map linr := by rw [← hln, List.map_append]; rfl
      rw [ho10] at o10
      try simp only [bs]
      refine wst28 (kk := 0) (off := 0 + 4) (row := evx x ld x5) (v := x10) (by rw [k10 _ (by omega)]; exact S.b3) (by rfl) (by rw [(one_cells (own_one o10)).1]; rfl) (by simp [-bind_some, evx]) (one_cells (own_one o10)).2 fun g11 p11 s11 => ?_
      rw [sp_set _ _ _ _ _ (own_one o10) (by omega)] at p11
      have S1 : Sp h o g11 (n + 1) (max m 41) { x with ls := x.ls ++ [nl] } x10 x5 := S.re (x' := { x with ls := x.ls ++ [nl] }) (by rw [s11.1]; exact l10) (fun q hq => by rw [s11.2 q (by omega)]; exact k10 q (by omega)) p11
        (o10.keep fun q hq _ => s11.2 q (by omega)) (S.ow.keep fun q hq hin => by rw [s11.2 q (by omega)]; exact k10' q (S.ow.lt hin).2 fun hh => S.ne q hh hin)
        (fun q h1 h2 => by rcases i10 q h1 with h1 | h1; exact S.ne q h1 h2; have := (S.ow.lt h2).2; omega) rfl
        ⟨S.B.r, S.B.t7, S.B.t8, S.B.fs, by show (x.ls ++ [nl]).length ≤ _; simp [-bind_some]; omega, fun p hp => by
          rcases List.mem_append.1 hp with hp | hp
          · exact S.B.lt p hp
          · rw [List.mem_singleton.1 hp, ← hln]; simp [-bind_some], S.B.ft⟩
      simp only [S1.ld3, bs, dBin_add]
      refine wst3 (kk := 0) (off := 0 + 3) (row := evx { x with ls := x.ls ++ [nl] } x10 x5) S1.b3 (by rfl) (by rfl) (by simp [-bind_some, evx]) (by rfl) fun g12 p12 s12 => ?_
      rw [sp_set _ _ _ _ _ rfl (by omega)] at p12
      refine .some (.inl ⟨rfl, k - 1, by omega, _, _, { x with ls := x.ls ++ [nl], a3 := IntKind.wrap .i64 (x.a3 + 1) }, x10, rfl, S1.upd (x' := { x with ls := x.ls ++ [nl], a3 := IntKind.wrap .i64 (x.a3 + 1) }) s12 p12 rfl rfl rfl ⟨S1.B.r, S1.B.t7, S1.B.t8, S1.B.fs, S1.B.ls, S1.B.lt, S1.B.ft⟩, ?_⟩)
      show k - 1 + (x.ls ++ [nl]).length = _
      simp [-bind_some]; omega
    · rintro ⟨ex, ds, g⟩ ⟨rfl, hP⟩
      exact .some ⟨rfl, hP⟩
  · rintro ⟨ex, ds, g⟩ ⟨rfl, x, ld, fd, S⟩
    have hl := S.hl
    have lde : dLoad tab g ty31 (.ptr (h.length + 2) 0 0) = some (.agg (evx x ld fd)) := by rw [ldp31, row_of S.b3]; rfl
    simp only [unblk_nrm, toEnd_nrm, lde, bs]
    obtain ⟨e, he⟩ := S.b1
    refine wst31 (kk := 0) (off := 0 + 1) (row := .str x.r :: evr e) (v := .agg (evx x ld fd)) he (by rfl) (by rfl) (by simp [-bind_some, evr]) (by rfl) fun g1 p1 s1 => ?_
    have p1 : g1[h.length]? = some (.row ty74 11 [x.row ld fd]) := p1
    have ld1 : dLoad tab g1 ty74 (.ptr h.length 0 0) = some (.agg (x.row ld fd)) := by rw [ldp74, row_of p1]; rfl
    simp only [ld1, bs]
    refine wst74 (kk := 0) (off := 0) (row := itr zit) (v := .agg (x.row ld fd)) (by rw [s1.2 _ (by omega)]; exact S.b2) (by rfl) (by rfl) (by exact Nat.le_refl _) (by rfl) fun g2 p2 s2 => ?_
    have p2 : g2[h.length + 1]? = some (.row ty74 11 [x.row ld fd]) := p2
    have ld2 : dLoad tab g2 ty74 (.ptr (h.length + 1) 0 0) = some (.agg (x.row ld fd)) := by rw [ldp74, row_of p2]; rfl
    simp only [ld2, bs, mkRes_one]
    have ol : Own g2 (h.length + 3) ty78 3 (x.ls.map linr) ld := S.ol.keep fun q hq _ => by rw [s2.2 q (by omega), s1.2 q (by omega)]
    have ow : Own g2 (h.length + 3) ty109 2 (x.fs.map Go.Proofs.YtlpedofpnbggbaaDoor.fld) fd := S.ow.keep fun q hq _ => by rw [s2.2 q (by omega), s1.2 q (by omega)]
    have sl := own_sl (n0 := h.length) (n := 2) ol (by omega) fun a _ d hd => by
      simp only [linr, List.mem_cons, List.not_mem_nil, or_false] at hd
      rcases hd with rfl | rfl | rfl <;> simp [-bind_some]
    have sf := own_sl (n0 := h.length) (n := 2) ow (by omega) fun a _ d hd => by
      simp only [Go.Proofs.YtlpedofpnbggbaaDoor.fld, List.mem_cons, List.not_mem_nil, or_false] at hd
      rcases hd with rfl | rfl <;> simp [-bind_some]
    have hls := S.B.ls
    have hfs := S.B.fs
    obtain ⟨j, hj⟩ : ∃ j, j = mkIt x _ _ sl sf (by omega) (by omega) := ⟨_, rfl⟩
    have hjr : itr j = x.row (frz h.length g2 3 ld) (frz h.length g2 3 fd) := by rw [hj]; rfl
    have Sx := (S.s.app (g' := g1) (by rw [s1.1]; exact Nat.le_refl _) fun q hq => s1.2 q (by omega)).app (g' := g2) (by rw [s2.1]; exact Nat.le_refl _) fun q hq => s2.2 q (by omega)
    obtain ⟨h', hsc, hcd, hsm⟩ := Sx.scope (d := .agg (x.row ld fd)) (d' := .agg (itr j)) (by rw [frz_agg, hjr]; simp [-bind_some, RI.row, itc]) (itr_ok _ j)
    rw [hsc]
    exact .some ⟨j, rfl, hcd, hsm, by rw [hj]; exact S.B⟩
theorem rb_nm {n m : Nat} {i : It} (h : RB n m (riOf i)) : NmB i.e := fun p hp => by
  have := (h.ft p hp).1
  omega
theorem itk_rb {i : It} (hi : ItK i) : RB 4 3 (riOf i) := by
  obtain ⟨hR, _⟩ := itk_r hi
  have l3 := hi.l3
  have f4 := hi.fs
  obtain ⟨ch, a0, a9, l1⟩ := hi.ch
  have tx := mch_txt _ _ _ ch a0 (by omega)
  have hh : i.r.length ≤ 32 ∧ i.e.s7.length ≤ 32 ∧ i.e.s8.length ≤ 32 ∧ ∀ p ∈ i.e.fs, p.1.length ≤ 1000 ∧ p.2.length ≤ 1000 := by
    rcases hi with ⟨hr, g⟩ | g
    · refine ⟨by rw [hr]; simp [-bind_some], (show ∀ s ∈ lt98_15, s.length ≤ 32 by decide) _ g.tr, (show ∀ s ∈ lt98_16, s.length ≤ 32 by decide) _ g.st, fun p hp => ⟨?_, (show ∀ s ∈ lt98_18, s.length ≤ 1000 by decide) _ (g.fs.2 p hp)⟩⟩
      exact (show ∀ s ∈ lt98_17, s.length ≤ 1000 by decide) _ (g.fs.1.subset (List.mem_map.2 ⟨p, hp, rfl⟩))
    · exact ⟨(show ∀ s ∈ lt98_35, s.length ≤ 32 by decide) _ g.r, by rw [g.tr]; simp [-bind_some], by rw [g.st]; simp [-bind_some], fun p hp => by rw [g.fs] at hp; cases hp⟩
  obtain ⟨r1, r2, r3, r8⟩ := hh
  exact ⟨by show i.r.length ≤ 1000; omega, by show i.e.s7.length ≤ 1000; omega, by show i.e.s8.length ≤ 1000; omega, f4, l3, fun l hl => by have := (tx l hl).2; omega, r8⟩
theorem s1131 (l r : List Lin) (d e : D) (h : Hp) (hd : SlOf 3 linr l d) (he : SlOf 3 linr r e) (hl : l.length ≤ 9223372036854775807) : R fn1131 [d, e] h = some (.bool (decide (l = r)), h) := by
  suffices Wp (R fn1131 [d, e] h) (fun p => p = (.bool (decide (l = r)), h)) by
    obtain ⟨p, h1, rfl⟩ := this
    exact h1
  rw [e1131]
  simp only [F1131, bs, Option.bind_assoc, lens28 hd, lens28 he, dBin_neq]
  refine Wp.dif ?_ ?_
  · intro hn
    have hn : l.length ≠ r.length := by have : ¬ (l.length : Int) = r.length := by simpa using hn
                                        omega
    have hne : l ≠ r := fun hh => hn (by rw [hh])
    simp only [bs, mkRes_one]
    exact .some (by simp [-bind_some, hne])
  · intro hn
    have hn : l.length = r.length := by have : (l.length : Int) = r.length := by simpa using hn
                                        omega
    refine Wp.loop (fun k ds g => g = h ∧ ∃ a b c f, ∃ i : Nat, ds = [a, b, .int .i64 i, c, f] ∧ k + i = l.length ∧ l.take i = r.take i)
      (fun x => x.2.2 = h ∧ ((x.1 = .ret ∧ nth 0 x.2.1 = .bool false ∧ l ≠ r) ∨ (x.1 = .ext 0 ∧ l = r))) l.length ⟨rfl, _, _, _, _, 0, rfl, rfl, rfl⟩ ?_ ?_
    · rintro k ds g ⟨rfl, a, b, c, f, i, rfl, hk, hi⟩
      simp only [F1131_L0, nth_zero, nth_succ, bs, Option.bind_assoc, dBin_lss]
      refine Wp.dif ?_ ?_
      · intro h0
        have h0 : i < l.length := by have : (i : Int) < l.length := by simpa using h0
                                     omega
        have hg : l[i]? = some l[i] := List.getElem?_eq_getElem h0
        have hg2 : r[i]? = some (r[i]'(by omega)) := List.getElem?_eq_getElem (by omega)
        have hw : IntKind.wrap .i64 ((i : Int) + 1) = ((i + 1 : Nat) : Int) := by
          rw [wrap_i64 (by omega) (by omega)]; omega
        generalize l[i] = x at hg
        generalize r[i]'(by omega) = y at hg2
        simp only [ixs28 hd, ixs28 he, Int.natCast_nonneg, if_true, Int.toNat_natCast, hg, hg2, Option.map_some, bs, linr_ld, lin_neq]
        refine Wp.dif ?_ ?_
        · intro hxy
          have hxy : x ≠ y := by simpa using hxy
          try simp only [bs]
          refine .some (.inr ⟨by simp, rfl, .inl ⟨rfl, rfl, fun hh => ?_⟩⟩)
          subst hh
          rw [hg] at hg2
          injection hg2 with hg2
          exact hxy hg2
        · intro hxy
          have hxy : x = y := by simpa using hxy
          subst hxy
          simp only [dBin_add, bs, hw]
          refine .some (.inl ⟨rfl, k - 1, by omega, rfl, _, _, _, _, i + 1, rfl, by omega, ?_⟩)
          rw [List.take_add_one, List.take_add_one, hi, hg, hg2]
      · intro h0
        have h0 : i = l.length := by have : ¬ (i : Int) < l.length := by simpa using h0
                                     omega
        refine .some (.inr ⟨by simp, rfl, .inr ⟨rfl, ?_⟩⟩)
        have h1 : l.take i = l := List.take_of_length_le (by omega)
        have h2 : r.take i = r := List.take_of_length_le (by omega)
        rw [← h1, ← h2, hi]
    · rintro ⟨x, ds, g⟩ ⟨rfl, ⟨rfl, hx, hne⟩ | ⟨rfl, hll⟩⟩
      · replace hx : nth 0 ds = .bool false := hx
        simp only [unblk_ret, toEnd_ret, exEnd_ret, nth_zero, bs, hx, mkRes_one]
        exact .some (by simp [-bind_some, hne])
      · simp only [unblk_self, toEnd_nrm, bs, mkRes_one]
        exact .some (by simp [-bind_some, hll])
theorem s1125 (i j : It) (h : Hp) (hfl : i.e.fs.length ≤ 1000) : R fn1125 [.agg (itr i), .agg (itr j)] h = some (.bool (sameI i j), h) := by
  suffices Wp (R fn1125 [.agg (itr i), .agg (itr j)] h) (fun p => p = (.bool (sameI i j), h)) by
    obtain ⟨p, h1, rfl⟩ := this
    exact h1
  rw [e1125]
  simp only [F1125, pBoxF_agg, bs, Option.bind_assoc, itF1, itF0, itL0, evL]
  generalize hg0 : dNew h ty31 10 [[.int .i64 0, .int .i64 0, .int .i64 0, .int .i64 0, .nils, .int .i64 0, .int .i64 0, .str [], .str [], .nils]] = g0
  have hgl : g0.length = h.length + 1 := by simp [-bind_some, ← hg0, dNew]
  have hb : ∀ q, q < h.length → g0[q]? = h[q]? := fun q hq => by simp only [← hg0, dNew]; rw [List.getElem?_append_left hq]
  have p8 : g0[h.length]? = some (.row ty31 10 [[.int .i64 0, .int .i64 0, .int .i64 0, .int .i64 0, .nils, .int .i64 0, .int .i64 0, .str [], .str [], .nils]]) := by simp [-bind_some, ← hg0, dNew]
  clear hg0
  refine wst31 p8 (by rfl) (by rfl) (by simp) (by rfl) fun g1 q8 s1 => ?_
  replace q8 : g1[h.length]? = some (.row ty31 10 [evr i.e]) := q8
  have hl1 : g1.length = h.length + 1 := by rw [s1.1, hgl]
  try simp only [chk_true]
  rw [hl1]
  generalize hg1 : dNew g1 ty31 10 [[.int .i64 0, .int .i64 0, .int .i64 0, .int .i64 0, .nils, .int .i64 0, .int .i64 0, .str [], .str [], .nils]] = g3
  have hgl3 : h.length ≤ g3.length := by simp [-bind_some, ← hg1, dNew]; omega
  have hb3 : ∀ q, q < h.length + 1 → g3[q]? = g1[q]? := fun q hq => by simp only [← hg1, dNew]; rw [List.getElem?_append_left (by omega)]
  have p9 : g3[h.length + 1]? = some (.row ty31 10 [[.int .i64 0, .int .i64 0, .int .i64 0, .int .i64 0, .nils, .int .i64 0, .int .i64 0, .str [], .str [], .nils]]) := by
    simp only [← hg1, dNew]; rw [← hl1, List.getElem?_append_right (Nat.le_refl _)]; simp [-bind_some]
  replace q8 := (hb3 h.length (by omega)).trans q8
  clear hg1
  refine wst31 p9 (by rfl) (by rfl) (by simp) (by rfl) fun g2 q9 s2 => ?_
  replace q9 : g2[h.length + 1]? = some (.row ty31 10 [evr j.e]) := q9
  replace q8 := (s2.2 h.length (by omega)).trans q8
  have hb2 : ∀ q, q < h.length → g2[q]? = h[q]? := fun q hq => (((s2.2 q (by omega)).trans (hb3 q (by omega))).trans (s1.2 q (by omega))).trans (hb q hq)
  have hl2 : h.length ≤ g2.length := by have := s2.1; omega
  have r8 : g2.row h.length 0 = some (evr i.e) := row_of q8
  have r9 : g2.row (h.length + 1) 0 = some (evr j.e) := row_of q9
  have hsc : ∀ b : Bool, scope h g2 (.bool b) = some (.bool b, h) := fun b => scope_eq (by simp) (.bool b) hl2 hb2
  obtain ⟨ri, ei⟩ := i
  obtain ⟨rj, ej⟩ := j
  by_cases h0 : ri = rj
  case neg => exact ⟨_, by simp [-bind_some, h0, hsc, sameI], rfl⟩
  by_cases h1 : ei.a0 = ej.a0
  case neg => exact ⟨_, by simp [-bind_some, h0, h1, hsc, sameI, sameE, r8, r9, evr], rfl⟩
  by_cases h2 : ei.a1 = ej.a1
  case neg => exact ⟨_, by simp [-bind_some, h0, h1, h2, hsc, sameI, sameE, r8, r9, evr], rfl⟩
  by_cases h3 : ei.a2 = ej.a2
  case neg => exact ⟨_, by simp [-bind_some, h0, h1, h2, h3, hsc, sameI, sameE, r8, r9, evr], rfl⟩
  by_cases h4 : ei.a3 = ej.a3
  case neg => exact ⟨_, by simp [-bind_some, h0, h1, h2, h3, h4, hsc, sameI, sameE, r8, r9, evr], rfl⟩
  have sl := s1131 ei.ls ej.ls ei.ld ej.ld g2 ei.hld ej.hld ei.hll
  have sf := s1053 ei.fs ej.fs ei.fd ej.fd g2 (.inl ei.hfd) (.inl ej.hfd) hfl
  by_cases h9 : ei.ls = ej.ls
  case neg => exact ⟨_, by simp [-bind_some, h0, h1, h2, h3, h4, h9, hsc, sameI, sameE, r8, r9, evr, sl], rfl⟩
  by_cases h5 : ei.a5 = ej.a5
  case neg => exact ⟨_, by simp [-bind_some, h0, h1, h2, h3, h4, h5, h9, hsc, sameI, sameE, r8, r9, evr, sl], rfl⟩
  by_cases h6 : ei.a6 = ej.a6
  case neg => exact ⟨_, by simp [-bind_some, h0, h1, h2, h3, h4, h5, h6, h9, hsc, sameI, sameE, r8, r9, evr, sl], rfl⟩
  by_cases h7 : ei.s7 = ej.s7
  case neg => exact ⟨_, by simp [-bind_some, h0, h1, h2, h3, h4, h5, h6, h7, h9, hsc, sameI, sameE, r8, r9, evr, sl], rfl⟩
  by_cases h8 : ei.s8 = ej.s8
  case neg => exact ⟨_, by simp [-bind_some, h0, h1, h2, h3, h4, h5, h6, h7, h8, h9, hsc, sameI, sameE, r8, r9, evr, sl], rfl⟩
  by_cases h10 : ei.fs = ej.fs
  case neg => exact ⟨_, by simp [-bind_some, h0, h1, h2, h3, h4, h5, h6, h7, h8, h9, h10, hsc, sameI, sameE, r8, r9, evr, sl, sf], rfl⟩
  exact ⟨_, by simp [-bind_some, h0, h1, h2, h3, h4, h5, h6, h7, h8, h9, h10, hsc, sameI, sameE, r8, r9, evr, sl, sf], rfl⟩
theorem s1124 (e : Ev) (n : Str) (h : Hp) : R fn1124 [.agg (evr e), .str n] h = some (getD' e.fs n, h) := by
  have q : dFieldAddr tab ty31 9 (.fptr (evr e)) = some (.fptr [e.fd]) := id rfl
  have hr := s76 e.fs e.fd n h e.hfd e.hl
  unfold getD' at hr ⊢
  rw [e1124]
  simp only [F1124, pBoxF_agg, bs, q, ld29, hr, dExtract_tup, List.getElem?_cons_zero, List.getElem?_cons_succ, mkRes_two]
def txE (e : Ev) : Str := Lib.join (e.ls.map (·.txt)) [10]
theorem join_add (l : List Str) (x : Str) : Lib.join (l ++ [x]) [10] = (if l = [] then [] else Lib.join l [10] ++ [10]) ++ x := by
  cases l with
  | nil => simp [-bind_some, Lib.join_one]
  | cons a r =>
    rw [List.cons_append, Lib.join_cons, Lib.join_cons]
    simp [-bind_some, Lib.joinTail]
theorem join_le : ∀ (l : List Str) (n : Nat), (∀ x ∈ l, x.length ≤ n) → (Lib.join l [10]).length ≤ l.length * (n + 1) := by
  intro l n
  suffices ∀ k, k ≤ l.length → (∀ x ∈ l.take k, x.length ≤ n) → (Lib.join (l.take k) [10]).length ≤ k * (n + 1) by
    intro h
    have h2 := this l.length (Nat.le_refl _) (fun x hx => h x (List.mem_of_mem_take hx))
    rwa [List.take_length] at h2
  intro k
  induction k with
  | zero => intro _ _; simp [-bind_some, Lib.join_nil]
  | succ k ih =>
    intro hk hx
    obtain ⟨a, ha⟩ : ∃ a, l[k]? = some a := ⟨_, List.getElem?_eq_getElem hk⟩
    rw [List.take_add_one, ha] at hx ⊢
    have h1 := ih (by omega) (fun x h => hx x (by simp [-bind_some, h]))
    have h2 := hx a (by simp)
    rw [Option.toList_some, join_add, List.length_append, Nat.succ_mul]
    split
    · simp [-bind_some]; omega
    · simp [-bind_some]; omega
theorem s1127 (e : Ev) (h : Hp) (hl : e.ls.length ≤ 1000) {nn : Nat} (hn : nn ≤ 2000000) (ht : ∀ l ∈ e.ls, l.txt.length ≤ nn) : R fn1127 [.agg (evr e)] h = some (.str (txE e), h) := by
  suffices Wp (R fn1127 [.agg (evr e)] h) (fun p => p = (.str (txE e), h)) by
    obtain ⟨p, h1, rfl⟩ := this
    exact h1
  have q4 : dFieldAddr tab ty31 4 (.fptr (evr e)) = some (.fptr [e.ld, .int .i64 e.a5, .int .i64 e.a6, .str e.s7, .str e.s8, e.fd]) := id rfl
  have hjl : ∀ i, i ≤ e.ls.length → (Lib.join ((e.ls.take i).map (·.txt)) [10]).length ≤ 4000000000 := fun i hi => by
    have := join_le ((e.ls.take i).map (·.txt)) nn (fun x hx => by
      obtain ⟨l, hl, rfl⟩ := List.mem_map.1 hx
      exact ht l (List.mem_of_mem_take hl))
    simp only [List.length_map, List.length_take] at this
    have h2 : min i e.ls.length * (nn + 1) ≤ 1000 * 2000001 := Nat.mul_le_mul (by omega) (by omega)
    omega
  rw [e1127]
  simp only [F1127, pBoxF_agg, bs, Option.bind_assoc]
  refine Wp.loop (fun k ds g => g = h ∧ ∃ a b, ∃ i : Nat, ds = [.str (Lib.join ((e.ls.take i).map (·.txt)) [10]), .int .i64 i, a, b] ∧ k + i = e.ls.length)
    (fun x => x.2.2 = h ∧ x.1 = .ext 0 ∧ nth 0 x.2.1 = .str (txE e)) e.ls.length ⟨rfl, _, _, 0, rfl, rfl⟩ ?_ ?_
  · rintro k ds g ⟨rfl, a, b, i, rfl, hk⟩
    simp only [F1127_L0, nth_zero, nth_succ, bs, Option.bind_assoc, q4, ld28, lens28 e.hld, dBin_lss]
    refine Wp.dif ?_ ?_
    · intro h0
      have h0 : i < e.ls.length := by have : (i : Int) < e.ls.length := by simpa using h0
                                      omega
      obtain ⟨x, hx⟩ : ∃ x, e.ls[i]? = some x := ⟨_, List.getElem?_eq_getElem h0⟩
      have hxl := ht x (List.mem_of_getElem? hx)
      have hw : IntKind.wrap .i64 ((i : Int) + 1) = ((i + 1 : Nat) : Int) := by
        rw [wrap_i64 (by omega) (by omega)]; omega
      have hj := hjl i (by omega)
      have hix : dIndexAddr tab ty28 e.ld (.int .i64 (i : Int)) = some (.fptr (linr x)) := by rw [ixs28 e.hld, if_pos (by omega), Int.toNat_natCast, hx]; rfl
      have hnx : Lib.join ((e.ls.take (i + 1)).map (·.txt)) [10] = (if i = 0 then [] else Lib.join ((e.ls.take i).map (·.txt)) [10] ++ [10]) ++ x.txt := by
        rw [List.take_add_one, hx, Option.toList_some, List.map_append, List.map_cons, List.map_nil, join_add]
        have : ((e.ls.take i).map (·.txt) = []) ↔ i = 0 := by
          rw [List.map_eq_nil_iff, List.take_eq_nil_iff]
          constructor
          · rintro (h | h)
            · exact h
            · rw [h] at h0; simp at h0
          · exact .inl
        simp only [this]
      simp only [dBin_gtr, bs]
      have k2 : dFieldAddr tab ty78 2 (.fptr (linr x)) = some (.fptr [.str x.txt]) := id rfl
      refine Wp.bind (P := fun r : Out => r = (.nrm, [.str (if i = 0 then [] else Lib.join ((e.ls.take i).map (·.txt)) [10] ++ [10])], g)) ?_ ?_
      · refine Wp.dif ?_ ?_
        · intro hi
          have hi : ¬ i = 0 := by have : (0 : Int) < i := by simpa using hi
                                  omega
          rw [dBin_sadd _ _ _ _ (by simp only [List.length_cons, List.length_nil]; omega)]
          simp only [bs]
          rw [if_neg hi]
          exact .some rfl
        · intro hi
          have hi : i = 0 := by have : ¬ (0 : Int) < i := by simpa using hi
                                omega
          subst hi
          exact .some rfl
      rintro _ rfl
      have hlen : ((if i = 0 then [] else Lib.join ((e.ls.take i).map (·.txt)) [10] ++ [10]) : Str).length ≤ 4000000001 := by
        split
        · simp [-bind_some]
        · simp only [List.length_append, List.length_cons, List.length_nil]; omega
      simp only [toEnd_nrm, nth_zero, hix, bs, k2, ld9, q4, ld28]
      rw [dBin_sadd _ _ _ _ (by omega)]
      simp only [bs, dBin_add, hw, ← hnx]
      exact .some (.inl ⟨rfl, k - 1, by omega, rfl, _, _, i + 1, rfl, by omega⟩)
    · intro h0
      have h0 : i = e.ls.length := by have : ¬ (i : Int) < e.ls.length := by simpa using h0
                                      omega
      refine .some (.inr ⟨by simp, rfl, rfl, ?_⟩)
      rw [nth_zero, h0, List.take_length]
      rfl
  · rintro ⟨x, ds, g⟩ ⟨h1, h2, h3⟩
    simp only at h1 h2 h3
    subst h1; subst h2
    simp only [unblk_self, toEnd_nrm, bs, nth_zero, h3, mkRes_one]
    exact .some rfl
theorem s1126 (e : Ev) (h : Hp) (hl : e.ls.length ≤ 1000) {nn : Nat} (hn : nn ≤ 2000000) (ht : ∀ l ∈ e.ls, l.txt.length ≤ nn) : R fn1126 [.agg (evr e)] h = some (.str (txE e), h) := by
  suffices Wp (R fn1126 [.agg (evr e)] h) (fun p => p = (.str (txE e), h)) by
    obtain ⟨p, h1, rfl⟩ := this
    exact h1
  have q4 : dFieldAddr tab ty31 4 (.fptr (evr e)) = some (.fptr [e.ld, .int .i64 e.a5, .int .i64 e.a6, .str e.s7, .str e.s8, e.fd]) := id rfl
  have hjl : (txE e).length ≤ 4000000000 := by
    have := join_le (e.ls.map (·.txt)) nn (fun x hx => by
      obtain ⟨l, hl, rfl⟩ := List.mem_map.1 hx
      exact ht l hl)
    simp only [List.length_map] at this
    have h2 : e.ls.length * (nn + 1) ≤ 1000 * 2000001 := Nat.mul_le_mul (by omega) (by omega)
    unfold txE
    omega
  rw [e1126]
  simp only [F1126, pBoxF_agg, bs, Option.bind_assoc, q4, ld28, lens28 e.hld]
  refine Wp.loop (fun k ds g => ∃ o a b, ∃ i : Nat, ds = [o, a, .int .i64 i, b] ∧ k + i = e.ls.length ∧ h.length ≤ g.length ∧ Own g h.length ty9 1 ((e.ls.take i).map fun l => [.str l.txt]) o ∧ ∀ q, q < h.length → g[q]? = h[q]?)
    (fun x => x.1 = .ext 0 ∧ h.length ≤ x.2.2.length ∧ Own x.2.2 h.length ty9 1 (e.ls.map fun l => [.str l.txt]) (nth 0 x.2.1) ∧ ∀ q, q < h.length → x.2.2[q]? = h[q]?) e.ls.length ⟨_, _, _, 0, rfl, rfl, Nat.le_refl _, .nils _ _ _ _, fun _ _ => rfl⟩ ?_ ?_
  · rintro k ds g ⟨o, a, b, i, rfl, hk, hgl, ow, hb⟩
    simp only [F1126_L0, nth_zero, nth_succ, bs, Option.bind_assoc, dBin_lss]
    refine Wp.dif ?_ ?_
    · intro h0
      have h0 : i < e.ls.length := by have : (i : Int) < e.ls.length := by simpa using h0
                                      omega
      obtain ⟨x, hx⟩ : ∃ x, e.ls[i]? = some x := ⟨_, List.getElem?_eq_getElem h0⟩
      have hw : IntKind.wrap .i64 ((i : Int) + 1) = ((i + 1 : Nat) : Int) := by
        rw [wrap_i64 (by omega) (by omega)]; omega
      have hix : dIndexAddr tab ty28 e.ld (.int .i64 (i : Int)) = some (.fptr (linr x)) := by rw [ixs28 e.hld, if_pos (by omega), Int.toNat_natCast, hx]; rfl
      have hbx : boxN 3 (.agg (linr x)) = some (.fptr (linr x)) := boxN_agg 3 _ rfl
      have k2 : dFieldAddr tab ty78 2 (.fptr (linr x)) = some (.fptr [.str x.txt]) := id rfl
      have hlit : pLitF tab ty98 1 [0] [.str x.txt] = some (.sl 1 true [[.str x.txt]]) := id rfl
      simp only [hix, bs, linr_ld, hbx, k2, ld9, hlit]
      refine wap98 hgl ow (rowsOf_sl _ _ _ _) (by simp; omega) fun x' g' ow' len bel _ _ => ?_
      simp only [bs, dBin_add, hw]
      refine .some (.inl ⟨rfl, k - 1, by omega, _, _, _, i + 1, rfl, by omega, by show h.length ≤ g'.length; omega, ?_, fun q hq => by rw [bel q (by omega)]; exact hb q hq⟩)
      rw [List.take_add_one, hx, Option.toList_some, List.map_append, List.map_cons, List.map_nil]
      exact ow'
    · intro h0
      have h0 : i = e.ls.length := by have : ¬ (i : Int) < e.ls.length := by simpa using h0
                                      omega
      refine .some (.inr ⟨by simp, rfl, hgl, ?_, hb⟩)
      rw [h0, List.take_length] at ow
      exact ow
  · rintro ⟨x, ds, g⟩ ⟨h1, h2, h3, h4⟩
    simp only at h1 h2 h3 h4
    subst h1
    have hr := own_rows h3
    have hm : (e.ls.map fun l => [D.str l.txt]) = (e.ls.map (·.txt)).map fun s => [.str s] := by rw [List.map_map]; rfl
    rw [hm] at hr
    have hj : R fn1132 [nth 0 ds, .str [10]] g = some (.str (txE e), g) := by
      rw [xjoin]
      unfold dJoin
      simp only [hr, strs_map]
      rw [if_pos ⟨by simp; omega, by unfold txE at hjl; omega⟩]
      rfl
    simp only [unblk_self, toEnd_nrm, bs, nth_zero, hj, mkRes_one]
    have hsc : scope h g (.str (txE e)) = some (.str (txE e), h) := scope_eq (by simp) (.str _) h2 h4
    rw [hsc]
    exact .some rfl
structure GdI (i : It) : Prop where
  nm : NmB i.e
  ls : i.e.ls.length ≤ 1000
  fs : i.e.fs.length ≤ 1000
  tx : ∀ l ∈ i.e.ls, l.txt.length ≤ 2000000
theorem rb_gd {n m : Nat} {i : It} (h : RB n m (riOf i)) (hn : n ≤ 1000) (hm : m ≤ 1000) : GdI i :=
  ⟨rb_nm h, by have : i.e.ls.length ≤ m := h.ls
               omega, by have : i.e.fs.length ≤ n := h.fs
                         omega, fun l hl => by have := h.lt l hl; omega⟩
theorem ldEv1 {g : Hp} {q : Nat} {j : It} (hq : g[q]? = some (.row ty74 11 [itr j])) : dLoad tab g ty31 (.ptr q 0 1) = some (.agg (evr j.e)) := by
  rw [ldp31, row_of hq]; rfl
theorem fap74_1z (o : Nat) : dFieldAddr tab ty74 1 (.ptr o 0 0) = some (.ptr o 0 1) := id rfl
theorem law1120 (raw : It) (zs : List Int) (d : D) (nm : Str) (hnm : NmB raw.e) (htx : ∀ l ∈ raw.e.ls, l.txt.length ≤ 1048576) (hd : Given .u8 zs d) (hz : ∀ z ∈ zs, 0 ≤ z ∧ z < 256) (hzl : zs.length ≤ 9223372036854775807) : ∃ h', R fn1120 [.agg (itr raw), d, .str nm] [] = some (.bool true, h') := by
  suffices Wp (R fn1120 [.agg (itr raw), d, .str nm] []) (fun p => p.1 = .bool true) by
    obtain ⟨⟨x, h'⟩, h1, rfl⟩ := this
    exact ⟨h', h1⟩
  have hsc : ∀ g' : Hp, scope [] g' (.bool true) = some (.bool true, []) := fun g' => scope_eq (by simp) (.bool _) (by simp) (fun q hq => by cases hq)
  have q4 : dFieldAddr tab ty31 4 (.fptr (evr raw.e)) = some (.fptr [raw.e.ld, .int .i64 raw.e.a5, .int .i64 raw.e.a6, .str raw.e.s7, .str raw.e.s8, raw.e.fd]) := id rfl
  have q9 : dFieldAddr tab ty31 9 (.fptr (evr raw.e)) = some (.fptr [raw.e.fd]) := id rfl
  rw [e1120]
  by_cases h60 : 60 < raw.e.ls.length
  · have hd60 : decide ((60 : Int) < (raw.e.ls.length : Int)) = true := decide_eq_true (by omega)
    simp only [F1120, pBoxF_agg, bs, s1036, dUn_not, Bool.not_true, dIf_bool, Bool.false_eq_true, if_false, itF1, q4, ld28, lens28 raw.e.hld, dBin_gtr, hd60, gd_bool, gd_und, Bool.true_eq_false, dPick_bool, if_true, hsc, mkRes_one]
    exact .some rfl
  have hd60 : decide ((60 : Int) < (raw.e.ls.length : Int)) = false := decide_eq_false (by omega)
  by_cases h61 : 60 < raw.e.fs.length
  · have hd61 : decide ((60 : Int) < (raw.e.fs.length : Int)) = true := decide_eq_true (by omega)
    simp only [F1120, pBoxF_agg, bs, s1036, dUn_not, Bool.not_true, dIf_bool, Bool.false_eq_true, if_false, itF1, q4, q9, ld28, ld29, lens28 raw.e.hld, lens29 raw.e.hfd, dBin_gtr, hd60, hd61, gd_bool, gd_und, Bool.true_eq_false, dPick_bool, if_true, hsc, mkRes_one]
    exact .some rfl
  have hd61 : decide ((60 : Int) < (raw.e.fs.length : Int)) = false := decide_eq_false (by omega)
  simp only [F1120, pBoxF_agg, bs, s1036, dUn_not, Bool.not_true, dIf_bool, Bool.false_eq_true, if_false, itF1, q4, q9, ld28, ld29, lens28 raw.e.hld, lens29 raw.e.hfd, dBin_gtr, hd60, hd61, gd_bool, dPick_bool, if_true, Option.bind_assoc]
  obtain ⟨h1, e1, c1, l1, _⟩ := m10 zs d 160 [] hd (by omega) (by omega) hz hzl
  refine Wp.step e1 ?_
  simp only [bs]
  obtain ⟨i, h2, e2, c2, s2, hi⟩ := m1038 c1
  refine Wp.step e2 ?_
  simp only [bs]
  obtain ⟨j, h3, e3, c3, s3, hj⟩ := m1038 c2
  refine Wp.step e3 ?_
  have l3 : h3.length = 1 := by rw [s3.1, s2.1, l1]; rfl
  have hz74 : ([.str [], .int .i64 0, .int .i64 0, .int .i64 0, .int .i64 0, .nils, .int .i64 0, .int .i64 0, .str [], .str [], .nils] : List D) = itr zit := rfl
  simp only [bs, hz74]
  have l4 : (dNew h3 ty74 11 [itr zit]).length = 2 := by simp [-bind_some, dNew, l3]
  have q1 : (dNew (dNew h3 ty74 11 [itr zit]) ty74 11 [itr zit])[1]? = some (.row ty74 11 [itr zit]) := by
    rw [dNew_old _ _ _ _ (by omega), ← l3]; exact dNew_get _ _ _ _
  have q2 : (dNew (dNew h3 ty74 11 [itr zit]) ty74 11 [itr zit])[2]? = some (.row ty74 11 [itr zit]) := by
    rw [← l4]; exact dNew_get _ _ _ _
  have c4 : CM (dNew (dNew h3 ty74 11 [itr zit]) ty74 11 [itr zit]) 0 := c3.keep (by rw [dNew_old _ _ _ _ (by simp; omega), dNew_old _ _ _ _ (by simp; omega)])
  have l5 : (dNew (dNew h3 ty74 11 [itr zit]) ty74 11 [itr zit]).length = 3 := by simp [-bind_some, dNew, l3]
  simp only [l3, l4, List.length_nil]
  have hP8 : ((D.ptr 1 0 0, dNew h3 ty74 11 [itr zit]) : D × Hp).1 = .ptr 1 0 0 := rfl
  generalize ((D.ptr 1 0 0, dNew h3 ty74 11 [itr zit]) : D × Hp) = p8 at hP8 ⊢
  have hP9 : ((D.ptr 2 0 0, dNew (dNew h3 ty74 11 [itr zit]) ty74 11 [itr zit]) : D × Hp).1 = .ptr 2 0 0 := rfl
  generalize ((D.ptr 2 0 0, dNew (dNew h3 ty74 11 [itr zit]) ty74 11 [itr zit]) : D × Hp) = p9 at hP9 ⊢
  generalize dNew (dNew h3 ty74 11 [itr zit]) ty74 11 [itr zit] = g1 at *
  refine wst74 (kk := 0) (off := 0) (row := itr zit) (v := .agg (itr i)) q1 (by rfl) (by rfl) (by simp [-bind_some, itr, evr]) (itr_okv i) fun g2 u1 t1 => ?_
  replace u1 : g2[1]? = some (.row ty74 11 [itr i]) := u1
  refine wst74 (kk := 0) (off := 0) (row := itr zit) (v := .agg (itr j)) (by rw [t1.2 _ (by omega)]; exact q2) (by rfl) (by rfl) (by simp [-bind_some, itr, evr]) (itr_okv j) fun g3 u2 t2 => ?_
  replace u2 : g3[2]? = some (.row ty74 11 [itr j]) := u2
  replace u1 : g3[1]? = some (.row ty74 11 [itr i]) := (t2.2 1 (by omega)).trans u1
  have c6 : CM g3 0 := c4.keep (by rw [t2.2 _ (by omega), t1.2 _ (by omega)])
  have Bi := itk_rb hi
  have Bj := itk_rb hj
  obtain ⟨x, h7, e7, c7, s7, Bx⟩ := m1123 c6 (by omega) (by omega) i Bi
  have v1 : h7[1]? = some (.row ty74 11 [itr i]) := (s7.2 1 (by omega)).trans u1
  have v2 : h7[2]? = some (.row ty74 11 [itr j]) := (s7.2 2 (by omega)).trans u2
  obtain ⟨y, h8, e8, c8, s8, By⟩ := m1123 c7 (by omega) (by omega) i Bi
  have w1 : h8[1]? = some (.row ty74 11 [itr i]) := (s8.2 1 (by omega)).trans v1
  have w2 : h8[2]? = some (.row ty74 11 [itr j]) := (s8.2 2 (by omega)).trans v2
  obtain ⟨z, H, e9, c9, s9, Bz⟩ := m1123 c8 (by omega) (by omega) y By
  have r1 : H[1]? = some (.row ty74 11 [itr i]) := (s9.2 1 (by omega)).trans w1
  have r2 : H[2]? = some (.row ty74 11 [itr j]) := (s9.2 2 (by omega)).trans w2
  have hlit : pLitF tab ty113 4 [0, 1, 2, 3] [.agg (itr raw), .agg (itr i), .agg (itr x), .agg (itr z)] = some (.sl 11 true [itr raw, itr i, itr x, itr z]) := id rfl
  have hsl : SlOf 11 itr [raw, i, x, z] (.sl 11 true [itr raw, itr i, itr x, itr z]) := .inr ⟨true, rfl⟩
  simp only [bs, ldIt, ldIt0 u1, ldIt0 v1, ldIt0 w1, ldIt0 r1, e7, e8, e9, hlit, lens113 hsl, chk_true]
  have good : ∀ q ∈ [raw, i, x, z], GdI q := fun q hq => by
    simp only [List.mem_cons, List.not_mem_nil, or_false] at hq
    rcases hq with rfl | rfl | rfl | rfl
    · exact ⟨hnm, by omega, by omega, fun l hl => by have := htx l hl; omega⟩
    · exact rb_gd Bi (by omega) (by omega)
    · exact rb_gd Bx (by omega) (by omega)
    · exact rb_gd Bz (by omega) (by omega)
  have hl4 : ([raw, i, x, z] : List It).length = 4 := rfl
  have hbx : ∀ j : It, boxN 11 (.agg (itr j)) = some (.fptr (itr j)) := fun j => boxN_agg 11 _ rfl
  generalize (.sl 11 true [itr raw, itr i, itr x, itr z] : D) = dl at hsl ⊢
  clear hlit
  generalize ([raw, i, x, z] : List It) = xs at hsl good hl4 ⊢
  rw [hl4]
  refine Wp.loop (fun m ds g => g = H ∧ ∃ a b c e f u w x, ∃ n : Nat, ds = [a, b, c, e, f, u, .int .i64 n, w, x] ∧ m + n = 4) (fun r => r.1 = .ext 0 ∧ r.2.2 = H) 4 ⟨rfl, _, _, _, _, _, _, _, _, 0, rfl, rfl⟩ ?_ ?_
  · rintro m ds g ⟨rfl, a, b, c, e, f, u, w, x, n, rfl, hk⟩
    simp only [F1120_L0, nth_zero, nth_succ, bs, Option.bind_assoc, dBin_lss]
    refine Wp.dif ?_ ?_
    · intro h0
      have h0 : n < 4 := by have : (n : Int) < ((4 : Nat) : Int) := by simpa using h0
                            omega
      obtain ⟨y, hy⟩ : ∃ y, xs[n]? = some y := ⟨xs[n]'(by omega), List.getElem?_eq_getElem (by omega)⟩
      have hg := good y (List.mem_of_getElem? hy)
      have hw : IntKind.wrap .i64 ((n : Int) + 1) = ((n + 1 : Nat) : Int) := by rw [wrap_i64 (by omega) (by omega)]; omega
      have hix : dIndexAddr tab ty113 dl (.int .i64 n) = some (.fptr (itr y)) := by rw [ixs113 hsl, if_pos (by omega), Int.toNat_natCast, hy]; rfl
      have gg : getD' y.e.fs nm = .tup [.str ((getF y.e.fs nm).getD []), .bool (getF y.e.fs nm).isSome] := rfl
      have f1 := s1125 y i g hg.fs
      have f2 := s1125 y y g hg.fs
      have f3 := s1126 y.e g hg.ls (Nat.le_refl _) hg.tx
      have f4 := s1127 y.e g hg.ls (Nat.le_refl _) hg.tx
      have f5 := s1010g y.e g hg.nm
      have f6 := s1004g y g hg.nm
      simp only [hix, bs, ldIt, hbx, itF1, evL, s75, s1124, gg, dExtract_tup, List.getElem?_cons_zero, List.getElem?_cons_succ, s1043w, f5, dBin_neq, ne_eq, not_true, decide_false, gd_bool, gdW_bool, if_true, s1042w, f6, dPick_bool, Bool.false_eq_true, if_false, hP9, fap74_1z, ldEv1 r2, s1037, s85, bneq4, beq_self_eq_true, Bool.not_true, hP8, ldIt0 r1, f1, s82, f3, f4, dBin_sneq, f2, sameI_refl, dUn_not, chk_true, dIf_bool, dBin_add, hw]
      exact .some (.inl ⟨rfl, m - 1, by omega, rfl, _, _, _, _, _, _, _, _, n + 1, rfl, by omega⟩)
    · intro h0
      exact .some (.inr ⟨by simp, rfl, rfl⟩)
  rintro ⟨ex, ds, g⟩ ⟨rfl, h2⟩
  simp only [unblk_self, toEnd_nrm, bs, hsc, mkRes_one]
  exact .some rfl
end Go.Proofs.YtlpedofpnbggbaaDoor
