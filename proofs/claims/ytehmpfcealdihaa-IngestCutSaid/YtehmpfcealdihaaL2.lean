/- Laws, on plain data, about functions that the statement reaches. -/
import Derived.Test.YtehmpfcealdihaaL1
set_option linter.unusedSimpArgs false
set_option linter.unusedVariables false
set_option linter.unnecessarySimpa false
namespace Go.Proofs.Ytehmpfcealdihaa
open Go.Eng Go.Pi
theorem l1015a (l : List (Str × Str)) (d : D) (h : Hp) (hd : SlOf 2 fld l d) (hl : l.length ≤ 32) (hn : ∀ p ∈ l, fnameOK p.1 = true ∧ p.1.length ≤ 1000) {β : Type} {K : Out → Option β} {Q : β → Prop} (a b : D)
    (cont : ∀ x y z w v, Wp (K (.ext 0, [x, y, z, w, v], h)) Q) : Wp ((loopW (F1015_L0 d) [a, b, .int .i64 0, .any, .any] h).bind K) Q := by
  refine Wp.loop (fun k ds g => g = h ∧ ∃ a b c e, ∃ i : Nat, ds = [a, b, .int .i64 i, c, e] ∧ k + i = l.length)
      (fun x => x.1 = .ext 0 ∧ x.2.2 = h ∧ ∃ a b c d e, x.2.1 = [a, b, c, d, e]) l.length ⟨rfl, _, _, _, _, 0, rfl, rfl⟩ ?_ ?_
  · rintro k ds g ⟨rfl, a, b, c, e, i, rfl, hk⟩
    simp only [F1015_L0, nth_zero, nth_succ, bs, Option.bind_assoc, lens29 hd, dBin_lss]
    refine Wp.dif ?_ ?_
    · intro h0
      have h0 : i < l.length := by have : (i : Int) < l.length := by simpa [-Option.bind_some] using h0
                                   omega
      have hg : l[i]? = some l[i] := List.getElem?_eq_getElem h0
      have hnn := hn l[i] (List.getElem_mem _)
      have hw : IntKind.wrap .i64 ((i : Int) + 1) = ((i + 1 : Nat) : Int) := by
        rw [wrap_i64 (by omega) (by omega)]; omega
      generalize l[i] = x at hg hnn
      simp only [ixs29 hd, Int.natCast_nonneg, if_true, Int.toNat_natCast, hg, Option.map_some, bs, fld_f0 x, fld_l0, s1018 x.1 g (by omega), hnn.1, dUn_not, Bool.not_true, dIf_bool, Bool.false_eq_true, if_false, dBin_add, hw]
      exact .some (.inl ⟨rfl, k - 1, by omega, rfl, _, _, _, _, i + 1, rfl, by omega⟩)
    · intro h0
      exact .some (.inr ⟨by simp [-Option.bind_some], rfl, rfl, _, _, _, _, _, rfl⟩)
  · rintro ⟨x, ds, g⟩ ⟨h1, h2, a, b, c, d, e, h3⟩
    subst h2
    simp only at h1 h3
    subst h1; subst h3
    exact cont _ _ _ _ _
theorem s1015 (l : List (Str × Str)) (d : D) (h : Hp) (hd : SlOf 2 fld l d) (hl : l.length ≤ 32) (hn : ∀ p ∈ l, fnameOK p.1 = true ∧ p.1.length ≤ 1000) (ha : Asc l) : ∃ d', R fn1015 [d] h = some (.tup [d', .int .i64 0], h) ∧ SlOf 2 fld l d' := by
  suffices Wp (R fn1015 [d] h) (fun p => p.2 = h ∧ ∃ d', p.1 = .tup [d', .int .i64 0] ∧ SlOf 2 fld l d') by
    obtain ⟨⟨x, h'⟩, h1, rfl, d', rfl, h2⟩ := this
    exact ⟨d', h1, h2⟩
  rw [e1015]
  have h32 : ¬ (32 : Int) < (l.length : Int) := by omega
  simp only [F1015, bs, Option.bind_assoc, lens29 hd, dBin_gtr, h32, decide_false, dIf_bool, Bool.false_eq_true, if_false]
  refine l1015a l d h hd hl hn _ _ fun x y z w v => ?_
  simp only [unblk_self, toEnd_nrm, nth_zero, nth_succ, bs]
  clear z w v
  refine Wp.loop (fun k ds g => h.length ≤ g.length ∧ (∀ q, q < h.length → g[q]? = h[q]?) ∧ ∃ a b x c e f u, ∃ i : Nat, ds = [a, b, x, .int .i64 i, c, e, f, u] ∧ k + i = l.length ∧ Own g h.length ty109 2 ((l.take i).map fld) x)
      (fun x => x.1 = .ext 2 ∧ h.length ≤ x.2.2.length ∧ (∀ q, q < h.length → x.2.2[q]? = h[q]?) ∧ Own x.2.2 h.length ty109 2 (l.map fld) (nth 2 x.2.1)) l.length ⟨Nat.le_refl _, fun _ _ => rfl, _, _, _, _, _, _, _, 0, rfl, rfl, Own.nils _ _ _ _⟩ ?_ ?_
  · rintro k ds g ⟨hgl, hgq, a, b, x, c, e, f, u, i, rfl, hk, ow⟩
    simp only [F1015_L1, nth_zero, nth_succ, bs, Option.bind_assoc, lens29 hd, dBin_lss]
    refine Wp.dif ?_ ?_
    · intro h0
      have h0 : i < l.length := by have : (i : Int) < l.length := by simpa [-Option.bind_some] using h0
                                   omega
      have hg : l[i]? = some l[i] := List.getElem?_eq_getElem h0
      have hw : IntKind.wrap .i64 ((i : Int) + 1) = ((i + 1 : Nat) : Int) := by
        rw [wrap_i64 (by omega) (by omega)]; omega
      have htk : l.take (i + 1) = l.take i ++ [l[i]] := by rw [List.take_add_one, hg]; rfl
      have hti : ((l.take i).map fld).length = i := by simp [-Option.bind_some]; omega
      generalize l[i] = y at hg htk
      have hb : pLitF tab ty29 1 [0] [.agg (fld y)] = some (.sl 2 true [fld y]) := id rfl
      simp only [leno29 ow, hti, ixs29 hd, Int.natCast_nonneg, if_true, Int.toNat_natCast, hg, Option.map_some, bs, fld_ld, hb]
      refine wap29 hgl ow (rowsOf_sl _ _ _ _) (by simp [-Option.bind_some]; omega) fun x1 g1 ow1 len1 bel1 _ _ => ?_
      have hrow : (l.take i).map fld ++ [fld y] = (l.take (i + 1)).map fld := by rw [htk]; simp [-Option.bind_some]
      rw [hrow] at ow1
      have hti1 : ((l.take (i + 1)).map fld).length = i + 1 := by simp [-Option.bind_some]; omega
      obtain ⟨ob, hob, rfl, hgo⟩ := own_ix ow1 (i := i) (by omega)
      rw [hti1] at *
      clear hti1
      have hti1 : ((l.take (i + 1)).map fld).length = i + 1 := by simp [-Option.bind_some]; omega
      have hyr : ((l.take (i + 1)).map fld)[i]? = some (fld y) := by
        rw [List.getElem?_map, List.getElem?_take, if_pos (by omega), hg]; rfl
      have hyl : (fld y) = [.str y.1, .str y.2] := rfl
      have rw1 : g1.row ob i = some (fld y) := by rw [row_of hgo]; exact hyr
      simp only [bs]
      rw [loopW_eq]
      have hL : F1015_L2 d [a, b, x, .int .i64 i, c, e, f, u] (.msl 2 ob 0 (i + 1)) [.int .i64 i, f] g1 = some (.ext 4, [.int .i64 i, .bool false], g1) := by
        by_cases hi : i = 0
        · subst hi
          simp [-Option.bind_some, F1015_L2]
        · have hi0 : (0 : Int) < i := by omega
          have hw1 : IntKind.wrap .i64 ((i : Int) - 1) = ((i - 1 : Nat) : Int) := by
            rw [wrap_i64 (by omega) (by omega)]; omega
          have hgp : l[i - 1]? = some (l[i - 1]'(by omega)) := List.getElem?_eq_getElem (by omega)
          generalize l[i - 1]'(by omega) = z at hgp
          have hz : ((l.take (i + 1)).map fld)[i - 1]? = some (fld z) := by
            rw [List.getElem?_map, List.getElem?_take, if_pos (by omega), hgp]; rfl
          have rz : g1.row ob (i - 1) = some (fld z) := by rw [row_of hgo]; exact hz
          have hlt : ((i - 1 : Nat) : Int) < ((i + 1 : Nat) : Int) := by omega
          have has := (ha (i - 1) z y hgp (by rw [show i - 1 + 1 = i by omega]; exact hg)).1
          simp only [F1015_L2, nth_zero, nth_succ, bs, dBin_gtr, hi0, decide_true, gd_bool, if_true, dBin_sub, hw1, ixm29, Int.natCast_nonneg, true_and, hlt, Int.toNat_natCast, Nat.zero_add, fap109_0, ldp9, rz, hyl, fld, List.drop_zero, List.head?_cons, ixs29 hd, hg, Option.map_some, fa109_0, ld9, sgtr, has, Bool.true_or, Bool.not_true, dPick_bool, dIf_bool, Bool.false_eq_true, if_false]
      rw [hL]
      simp only [bs, unblk_self, toEnd_nrm, nth_zero, nth_succ, ixs29 hd, Int.natCast_nonneg, if_true, Int.toNat_natCast, hg, Option.map_some, fld_ld, ixm29, true_and, show (i : Int) < ((i + 1 : Nat) : Int) by omega, Nat.zero_add]
      refine wst109 hgo hyr (by rfl) (by simp [-Option.bind_some, fld]) (by rfl) fun g2 q2 s2 => ?_
      have hset : ((l.take (i + 1)).map fld).set i (spl (fld y) 0 (cells1 (.agg (fld y)))) = (l.take (i + 1)).map fld := by
        rw [show spl (fld y) 0 (cells1 (.agg (fld y))) = fld y from rfl]
        refine List.ext_getElem? fun j => ?_
        rw [List.getElem?_set]
        split
        · rename_i hj; subst hj; rw [if_pos (by omega)]; exact hyr.symm
        · rfl
      rw [hset] at q2
      have ow2 : Own g2 h.length ty109 2 ((l.take (i + 1)).map fld) (.msl 2 ob 0 (i + 1)) := .inr ⟨ob, hob, by rw [hti1], q2⟩
      have hgl2 : h.length ≤ g2.length := by have := s2.1; omega
      have hgq2 : ∀ q, q < h.length → g2[q]? = h[q]? := fun q hq => ((s2.2 q (by omega)).trans (bel1 q hq)).trans (hgq q hq)
      by_cases hi : i = 0
      · subst hi
        simp only [bs, dBin_gtr, show ¬ (0 : Int) < ((0 : Nat) : Int) by omega, decide_false, gd_bool, Bool.false_eq_true, if_false, dPick_bool, gd_und, dIf_bool, dBin_add, hw]
        exact .some (.inl ⟨rfl, k - 1, by omega, hgl2, hgq2, _, _, _, _, _, _, _, 0 + 1, rfl, by omega, ow2⟩)
      · have hi0 : (0 : Int) < i := by omega
        have hw1 : IntKind.wrap .i64 ((i : Int) - 1) = ((i - 1 : Nat) : Int) := by
          rw [wrap_i64 (by omega) (by omega)]; omega
        have hgp : l[i - 1]? = some (l[i - 1]'(by omega)) := List.getElem?_eq_getElem (by omega)
        generalize l[i - 1]'(by omega) = z at hgp
        have hz : ((l.take (i + 1)).map fld)[i - 1]? = some (fld z) := by
          rw [List.getElem?_map, List.getElem?_take, if_pos (by omega), hgp]; rfl
        have rz : g2.row ob (i - 1) = some (fld z) := by rw [row_of q2]; exact hz
        have hlt : ((i - 1 : Nat) : Int) < ((i + 1 : Nat) : Int) := by omega
        have has := (ha (i - 1) z y hgp (by rw [show i - 1 + 1 = i by omega]; exact hg)).2
        have hne : (z.1 == y.1) = false := by simpa [-Option.bind_some] using has
        simp only [bs, dBin_gtr, hi0, decide_true, gd_bool, if_true, dBin_sub, hw1, ixm29, Int.natCast_nonneg, true_and, hlt, Int.toNat_natCast, Nat.zero_add, fap109_0, ldp9, rz, hyl, fld, List.drop_zero, List.head?_cons, ixs29 hd, hg, Option.map_some, fa109_0, ld9, dBin_seql, hne, dPick_bool, dIf_bool, Bool.false_eq_true, if_false, dBin_add, hw]
        exact .some (.inl ⟨rfl, k - 1, by omega, hgl2, hgq2, _, _, _, _, _, _, _, i + 1, rfl, by omega, ow2⟩)
    · intro h0
      have h0 : i = l.length := by have : ¬ (i : Int) < l.length := by simpa [-Option.bind_some] using h0
                                   omega
      subst h0
      rw [List.take_length] at ow
      exact .some (.inr ⟨by simp [-Option.bind_some], rfl, hgl, hgq, ow⟩)
  · rintro ⟨ex, ds, g⟩ ⟨h1, hgl, hgq, ow⟩
    simp only at h1 hgl hgq ow
    subst h1
    simp only [unblk_self, toEnd_nrm, nth_zero, nth_succ, bs, mkRes_two]
    have hsl := own_sl (n0 := h.length) (n := 2) ow (Nat.le_refl _) (fun a _ => fld_frz _ g _ a)
    rw [scope_eq (d' := .tup [frz h.length g 3 (nth 2 ds), .int .i64 0]) (by simp [-Option.bind_some]) (by
      refine .tup _ fun d hd => ?_
      simp [-Option.bind_some] at hd
      rcases hd with rfl | rfl
      · exact slof_ok hsl fun a _ => fld_ok _ a
      · constructor) hgl hgq]
    exact .some ⟨rfl, _, rfl, hsl⟩
structure PlOK (e : Ev) : Prop where
  h0 : 0 ≤ e.a0
  h9 : e.a0 ≤ 999
  f0 : 0 ≤ e.a1
  f9 : e.a1 ≤ 2147483646
  a0 : 0 ≤ e.a2
  ab : e.a2 < e.a3
  b9 : e.a3 ≤ 60000
theorem s1011 (e : Ev) (h : Hp) (he : PlOK e) : R fn1011 [.agg (evr e)] h = some (.int .i64 0, h) := by
  obtain ⟨h1, h2, h3, h4, h5, h6, h7⟩ := he
  have g1 : ¬ e.a0 < 0 := by omega
  have g2 : ¬ 999 < e.a0 := by omega
  have g3 : ¬ e.a1 < 0 := by omega
  have g4 : ¬ 2147483646 < e.a1 := by omega
  have g5 : ¬ e.a2 < 0 := by omega
  have g6 : ¬ e.a3 ≤ e.a2 := by omega
  have g7 : ¬ 60000 < e.a3 := by omega
  rw [e1011]
  simp only [F1011, pBoxF_agg, bs, evr, fa31_0, fa31_1, fa31_2, fa31_3, ld3, dBin_lss, dBin_gtr, dBin_leq, g1, g2, g3, g4, g5, g6, g7, decide_false, gd_bool, if_true, if_false, Bool.false_eq_true, dPick_bool, dIf_bool, mkRes_one]
theorem s1014 (w : Int) (h : Hp) (h1 : 1 ≤ w) (h2 : w ≤ 5040) (h3 : Int.tmod 5040 w = 0) : R fn1014 [.int .i64 w] h = some (.bool true, h) := by
  have g0 : ¬ w = 0 := by omega
  rw [e1014]
  simp only [F1014, bs, dBin_geq, dBin_leq, h1, h2, decide_true, gd_bool, if_true, dPick_bool, dBin_rem, g0, if_false, h3, dBin_eql, mkRes_one]
theorem s1012 (e : Ev) (m : Int) (h : Hp) (hm : 35 ≤ m) (hm2 : m ≤ 1000000) (he : PlOK e) (h1 : 1 ≤ e.ls.length) (h4 : e.ls.length ≤ 40) (hc : chain e.a2 e.ls e.a3) : R fn1012 [.agg (evr e), .int .i64 m] h = some (.int .i64 0, h) := by
  suffices Wp (R fn1012 [.agg (evr e), .int .i64 m] h) (fun p => p = (.int .i64 0, h)) by
    obtain ⟨p, h1, rfl⟩ := this
    exact h1
  obtain ⟨p1, p2, p3, p4, p5, p6, p7⟩ := he
  have g0 : ¬ (e.ls.length : Int) = 0 := by omega
  have g4 : ¬ (40 : Int) < e.ls.length := by omega
  rw [e1012]
  simp only [F1012, pBoxF_agg, bs, Option.bind_assoc, evr, fa31_4, fa31_2, ld28, ld3, lens28 e.hld, dBin_eql, g0, decide_false, dIf_bool, Bool.false_eq_true, if_false, dBin_gtr, g4]
  refine Wp.loop (fun k ds g => g = h ∧ ∃ a b c d f, ∃ at_ : Int, ∃ i : Nat, ds = [a, .int .i64 at_, .int .i64 i, b, c, d, f] ∧ k + i = e.ls.length ∧ 0 ≤ at_ ∧ chain at_ (e.ls.drop i) e.a3)
      (fun x => x.1 = .ext 0 ∧ x.2.2 = h) e.ls.length ⟨rfl, _, _, _, _, _, _, 0, rfl, rfl, p5, hc⟩ ?_ ?_
  · rintro k ds g ⟨rfl, a, b, c, d, f, at_, i, rfl, hk, ha0, hch⟩
    simp only [F1012_L0, nth_zero, nth_succ, bs, Option.bind_assoc, fa31_4, ld28, lens28 e.hld, dBin_lss]
    refine Wp.dif ?_ ?_
    · intro h0
      have h0 : i < e.ls.length := by have : (i : Int) < e.ls.length := by simpa [-Option.bind_some] using h0
                                      omega
      have hg : e.ls[i]? = some e.ls[i] := List.getElem?_eq_getElem h0
      have hw : IntKind.wrap .i64 ((i : Int) + 1) = ((i + 1 : Nat) : Int) := by
        rw [wrap_i64 (by omega) (by omega)]; omega
      rw [List.drop_eq_getElem_cons h0] at hch
      generalize e.ls[i] = x at hg hch
      obtain ⟨c1, c2, c3, c4, c5⟩ := hch
      have hle := chain_le _ _ _ c5
      have hw2 : IntKind.wrap .i64 (at_ + x.len) = at_ + x.len := wrap_i64 (by omega) (by omega)
      have hw3 : IntKind.wrap .i64 (e.a3 - at_) = e.a3 - at_ := wrap_i64 (by omega) (by omega)
      have hw4 : IntKind.wrap .i64 ((e.ls.length : Int) - 1) = (e.ls.length : Int) - 1 := wrap_i64 (by omega) (by omega)
      have q1 : ¬ x.off ≠ at_ := by omega
      have q2 : ¬ x.len < 1 := by omega
      have q3 : ¬ e.a3 - at_ < x.len := by omega
      have q5 : ¬ m < (x.txt.length : Int) := by omega
      have hbx : boxN 3 (.agg (linr x)) = some (.fptr (linr x)) := boxN_agg 3 _ rfl
      simp only [ixs28 e.hld, Int.natCast_nonneg, if_true, Int.toNat_natCast, hg, Option.map_some, bs, linr_ld, hbx]
      have fin : Wp (some (Ex.nrm, [a, .int .i64 (at_ + x.len), .int .i64 ((i + 1 : Nat) : Int), .fptr (linr x), .bool (decide ((i : Int) < e.ls.length)), .bool false, .bool false], g)) (fun r : Out => (r.1 = .nrm ∧ ∃ k', k' < k ∧ r.2.2 = g ∧ ∃ a b c d f, ∃ at_ : Int, ∃ i : Nat, r.2.1 = [a, .int .i64 at_, .int .i64 i, b, c, d, f] ∧ k' + i = e.ls.length ∧ 0 ≤ at_ ∧ chain at_ (e.ls.drop i) e.a3) ∨ (r.1 ≠ .nrm ∧ r.1 = .ext 0 ∧ r.2.2 = g)) :=
        .some (.inl ⟨rfl, k - 1, by omega, rfl, _, _, _, _, _, _, i + 1, rfl, by omega, by omega, c5⟩)
      by_cases hi : (i : Int) = (e.ls.length : Int) - 1
      · rw [List.drop_of_length_le (by omega)] at c5
        have c5 : at_ + x.len = e.a3 := c5
        have hid : decide ((i : Int) = (e.ls.length : Int) - 1) = true := by simpa [-Option.bind_some] using hi
        have q6 : ¬ x.len ≠ e.a3 - at_ := by omega
        simp only [linr, fa78_0, fa78_1, fa78_2, ld3, ld9, len9, bs, dBin_neq, dBin_lss, dBin_gtr, dBin_sub, q1, q2, decide_false, gd_bool, if_true, dPick_bool, Bool.false_eq_true, if_false, fa31_3, fa31_4, ld28, lens28 e.hld, hw3, hw4, q3, dBin_eql, hid, q6, q5, dIf_bool, dBin_add, hw2, hw]
        exact fin
      · simp only [linr, fa78_0, fa78_1, fa78_2, ld3, ld9, len9, bs, dBin_neq, dBin_lss, dBin_gtr, dBin_sub, q1, q2, decide_false, gd_bool, if_true, dPick_bool, Bool.false_eq_true, if_false, fa31_3, fa31_4, ld28, lens28 e.hld, hw3, hw4, q3, dBin_eql, hi, decide_true, gd_und, q5, dIf_bool, dBin_add, hw2, hw]
        exact fin
    · intro h0
      exact .some (.inr ⟨by simp [-Option.bind_some], rfl, rfl⟩)
  · rintro ⟨ex, ds, g⟩ ⟨h1, h2⟩
    simp only at h1 h2
    subst h1; subst h2
    simp only [unblk_self, toEnd_nrm, bs, mkRes_one]
    exact .some rfl
structure EvGood (e : Ev) : Prop where
  pl : PlOK e
  t0 : 0 ≤ e.a5
  t9 : e.a5 ≤ 253402300799999
  w1 : 1 ≤ e.a6
  w2 : e.a6 ≤ 5040
  w3 : Int.tmod 5040 e.a6 = 0
  l1 : 1 ≤ e.ls.length
  l4 : e.ls.length ≤ 40
  ch : chain e.a2 e.ls e.a3
  tr : e.s7.length ≤ 32
  st : e.s8.length ≤ 32
  f3 : e.fs.length ≤ 32
  fn : ∀ p ∈ e.fs, fnameOK p.1 = true ∧ p.1.length ≤ 1000
  fa : Asc e.fs
  fv : ∀ p ∈ e.fs, p.2.length ≤ 2000
theorem fld_f1 (p : Str × Str) : dFieldAddr tab ty109 1 (.fptr (fld p)) = some (.fptr [.str p.2]) := id rfl
theorem s1010 (e : Ev) (h : Hp) (he : EvGood e) : R fn1010 [.agg (evr e)] h = some (.int .i64 0, h) := by
  suffices Wp (R fn1010 [.agg (evr e)] h) (fun p => p = (.int .i64 0, h)) by
    obtain ⟨p, h1, rfl⟩ := this
    exact h1
  have q1 : ¬ e.a5 < 0 := by have := he.t0; omega
  have q2 : ¬ 253402300799999 < e.a5 := by have := he.t9; omega
  have q3 : ¬ (32 : Int) < (e.s7.length : Int) := by have := he.tr; omega
  have q4 : ¬ (32 : Int) < (e.s8.length : Int) := by have := he.st; omega
  obtain ⟨d', hs, hd'⟩ := s1015 e.fs e.fd h e.hfd he.f3 he.fn he.fa
  have h95 := s95 e.fs e.fs d' e.fd h hd' e.hfd e.hl
  have h12 := s1012 e 2000 h (by omega) (by omega) he.pl he.l1 he.l4 he.ch
  simp only [evr] at h12
  rw [e1010]
  simp only [F1010, pBoxF_agg, bs, Option.bind_assoc, evL, s1011 e h he.pl]
  simp only [evr, fa31_5, fa31_6, fa31_7, fa31_8, fa31_9, ld3, ld9, ld29, len9, bs, dBin_neq, dBin_lss, dBin_gtr, q1, q2, q3, q4, decide_false, ne_eq, not_true, gd_bool, if_true, if_false, Bool.false_eq_true, dPick_bool, dIf_bool, s1014 e.a6 h he.w1 he.w2 he.w3, h12, dUn_not, Bool.not_true, hs, dExtract_tup, List.getElem?_cons_zero, List.getElem?_cons_succ, h95, decide_true]
  refine Wp.loop (fun k ds g => g = h ∧ ∃ a b c, ∃ i : Nat, ds = [a, .int .i64 i, b, c] ∧ k + i = e.fs.length)
      (fun x => x.1 = .ext 0 ∧ x.2.2 = h) e.fs.length ⟨rfl, _, _, _, 0, rfl, rfl⟩ ?_ ?_
  · rintro k ds g ⟨rfl, a, b, c, i, rfl, hk⟩
    simp only [F1010_L0, nth_zero, nth_succ, bs, Option.bind_assoc, lens29 hd', dBin_lss]
    refine Wp.dif ?_ ?_
    · intro h0
      have h0 : i < e.fs.length := by have : (i : Int) < e.fs.length := by simpa [-Option.bind_some] using h0
                                      omega
      have hg : e.fs[i]? = some e.fs[i] := List.getElem?_eq_getElem h0
      have hv := he.fv e.fs[i] (List.getElem_mem _)
      have hf3 := he.f3
      have hw : IntKind.wrap .i64 ((i : Int) + 1) = ((i + 1 : Nat) : Int) := by
        rw [wrap_i64 (by omega) (by omega)]; omega
      generalize e.fs[i] = x at hg hv
      have q5 : ¬ (2000 : Int) < (x.2.length : Int) := by omega
      simp only [ixs29 hd', Int.natCast_nonneg, if_true, Int.toNat_natCast, hg, Option.map_some, bs, fld_f1, ld9, len9, dBin_gtr, q5, decide_false, dIf_bool, Bool.false_eq_true, if_false, dBin_add, hw]
      exact .some (.inl ⟨rfl, k - 1, by omega, rfl, _, _, _, i + 1, rfl, by omega⟩)
    · intro h0
      exact .some (.inr ⟨by simp [-Option.bind_some], rfl, rfl⟩)
  · rintro ⟨ex, ds, g⟩ ⟨h1, h2⟩
    simp only at h1 h2
    subst h1; subst h2
    simp only [unblk_self, toEnd_nrm, bs, mkRes_one]
    exact .some rfl
structure SkGood (i : It) : Prop where
  r0 : i.r ≠ []
  r3 : i.r.length ≤ 32
  pl : PlOK i.e
  l1 : 1 ≤ i.e.ls.length
  l4 : i.e.ls.length ≤ 40
  ch : chain i.e.a2 i.e.ls i.e.a3
  tm : i.e.a5 = 0
  w0 : i.e.a6 = 0
  tr : i.e.s7 = []
  st : i.e.s8 = []
  fs : i.e.fs = []
  tx : ∀ l ∈ i.e.ls, l.txt = []
theorem s1004 (i : It) (h : Hp) (hi : (i.r = [] ∧ EvGood i.e) ∨ SkGood i) : R fn1004 [.agg (itr i)] h = some (.int .i64 0, h) := by
  suffices Wp (R fn1004 [.agg (itr i)] h) (fun p => p = (.int .i64 0, h)) by
    obtain ⟨p, h1, rfl⟩ := this
    exact h1
  rw [e1004]
  simp only [F1004, pBoxF_agg, bs, Option.bind_assoc, itF0, itF1, itL0, evL, dBin_seql]
  rcases hi with ⟨hr, he⟩ | he
  · simp only [hr, beq_self_eq_true, dIf_bool, if_true, s1010 i.e h he, bs, mkRes_one]
    exact .some rfl
  · have q0 : (i.r == []) = false := by simpa [-Option.bind_some] using he.r0
    have q1 : ¬ (32 : Int) < (i.r.length : Int) := by have := he.r3; omega
    have hbx : boxN 10 (.agg (evr i.e)) = some (.fptr (evr i.e)) := boxN_agg 10 _ rfl
    have hfl : (i.e.fs.length : Int) = 0 := by rw [he.fs]; rfl
    simp only [q0, dIf_bool, Bool.false_eq_true, if_false, len9, bs, dBin_gtr, q1, decide_false, hbx, evL, s1011 i.e h he.pl, s1012 i.e 20000 h (by omega) (by omega) he.pl he.l1 he.l4 he.ch, dBin_neq, ne_eq, not_true, gd_bool, dPick_bool]
    simp only [evr, fa31_5, fa31_6, fa31_7, fa31_8, fa31_9, ld3, ld9, ld29, len9, bs, dBin_neq, dBin_sneq, he.tm, he.w0, he.tr, he.st, lens29 i.e.hfd, hfl, ne_eq, not_true, decide_false, gd_bool, if_true, if_false, Bool.false_eq_true, dPick_bool, dIf_bool, beq_self_eq_true, Bool.not_true]
    refine Wp.loop (fun k ds g => g = h ∧ ∃ a b c, ∃ n : Nat, ds = [a, .int .i64 n, b, c] ∧ k + n = i.e.ls.length)
      (fun x => x.1 = .ext 0 ∧ x.2.2 = h) i.e.ls.length ⟨rfl, _, _, _, 0, rfl, rfl⟩ ?_ ?_
    · rintro k ds g ⟨rfl, a, b, c, n, rfl, hk⟩
      simp only [F1004_L0, nth_zero, nth_succ, bs, Option.bind_assoc, fa31_4, ld28, lens28 i.e.hld, dBin_lss]
      refine Wp.dif ?_ ?_
      · intro h0
        have h0 : n < i.e.ls.length := by have : (n : Int) < i.e.ls.length := by simpa [-Option.bind_some] using h0
                                          omega
        have hg : i.e.ls[n]? = some i.e.ls[n] := List.getElem?_eq_getElem h0
        have hv := he.tx i.e.ls[n] (List.getElem_mem _)
        have hf3 := he.l4
        have hw : IntKind.wrap .i64 ((n : Int) + 1) = ((n + 1 : Nat) : Int) := by
          rw [wrap_i64 (by omega) (by omega)]; omega
        generalize i.e.ls[n] = x at hg hv
        simp only [ixs28 i.e.hld, Int.natCast_nonneg, if_true, Int.toNat_natCast, hg, Option.map_some, bs, linr, fa78_2, ld9, hv, dBin_sneq, beq_self_eq_true, Bool.not_true, dIf_bool, Bool.false_eq_true, if_false, dBin_add, hw]
        exact .some (.inl ⟨rfl, k - 1, by omega, rfl, _, _, _, n + 1, rfl, by omega⟩)
      · intro h0
        exact .some (.inr ⟨by simp [-Option.bind_some], rfl, rfl⟩)
    · rintro ⟨ex, ds, g⟩ ⟨h1, h2⟩
      simp only at h1 h2
      subst h1; subst h2
      simp only [unblk_self, toEnd_nrm, bs, mkRes_one]
      exact .some rfl
theorem l1006 (l : List Lin) (d : D) (fn : D) (pr : Lin → Bool) (h : Hp) (hd : SlOf 3 linr l d) (hl : l.length ≤ 9223372036854775807) (hf : ∀ x, callV R fn [.agg (linr x)] h = some (.bool (pr x), h)) {β : Type} (K : Out → Option β) (X : Int → Option β)
   (hX : ∀ v r, K (.ret, .int .i64 v :: r, h) = X v) (hY : ∀ r, K (.ext 0, r, h) = X (-1)) : ∀ (suf pre : List Lin), l = pre ++ suf → ∀ a b e f,
   (loopW (F1006_L0 d fn (.int .i64 l.length)) [a, b, .int .i64 pre.length, e, f] h).bind K = X (idx pr pre.length suf) := by
  intro suf
  induction suf with
  | nil =>
    rintro pre rfl a b e f
    rw [loopW_eq]
    simp [-Option.bind_some, F1006_L0, hY, idx]
  | cons p suf ih =>
    rintro pre rfl a b e f
    have hw : IntKind.wrap .i64 ((pre.length : Int) + 1) = (pre ++ [p]).length := by
      rw [wrap_i64 (by omega) (by simp [-Option.bind_some] at hl; omega)]; simp [-Option.bind_some]
    have hlt : (pre.length : Int) < (pre ++ p :: suf).length := by simp [-Option.bind_some]; omega
    rw [loopW_eq]
    generalize hL : pre ++ p :: suf = L at *
    have hg : L[pre.length]? = some p := by rw [← hL]; exact get_mid _ _ _
    by_cases hp : pr p = true
    · simp [-Option.bind_some, F1006_L0, ixs28 hd, hlt, hg, linr_ld, hf, hp, hX, idx]
    · have := ih (pre ++ [p]) (by simp [-Option.bind_some, ← hL]) a (.int .i64 pre.length) (.bool true) (.bool (pr p))
      simp only [← hw] at this
      simp [-Option.bind_some, F1006_L0, ixs28 hd, hlt, hg, linr_ld, hf, hp, idx]
      simp [-Option.bind_some, hp] at this
      exact this
theorem s1006 (l : List Lin) (d : D) (fn : D) (pr : Lin → Bool) (h : Hp) (hd : SlOf 3 linr l d) (hl : l.length ≤ 9223372036854775807) (hf : ∀ x, callV R fn [.agg (linr x)] h = some (.bool (pr x), h)) :
   R fn1006 [d, fn] h = some (.int .i64 (idx pr 0 l), h) := by
  rw [e1006]
  simp only [F1006, bs, lens28 hd, Option.bind_assoc]
  rw [show (0 : Int) = (([] : List Lin).length : Int) from rfl, l1006 l d fn pr h hd hl hf _ (fun v => some (.int .i64 v, h)) (fun v r => by simp [-Option.bind_some]) (fun r => by simp [-Option.bind_some]) l [] rfl]
  rfl
theorem s1007 (l : Lin) (n : Int) (h : Hp) : R fn1007 [.agg (linr l), .fptr [.int .i64 n]] h = some (.bool (decide (l.off = n)), h) := by
  rw [e1007]
  simp [-Option.bind_some, F1007, linr]
theorem app_full {T : Tab} {t e : Nat} {i j : TI} (ht : T t = Option.some i) (hi : i.td = .sl e) (he : T e = Option.some j) (hz : 0 < j.sz) {h : Hp} {ys : List (List D)} {y : D} (hy : dRowsOf h j.sz y = Option.some ys) (hl : lim ys.length j.by_ = true) :
    ∃ x' h', dAppend T h t t (.sl j.sz true []) y = Option.some (x', h') ∧ h.length ≤ h'.length ∧ (∀ q, q < h.length → h'[q]? = h[q]?) ∧ ((x' = .sl j.sz true [] ∧ ys = []) ∨ Own h' h.length e j.sz ys x') := by
  have hz' : Nat.blt 0 j.sz = true := Nat.ble_eq_true_of_le hz
  have hs : dSrc h i j y = Option.some ys := by simp [-Option.bind_some, dSrc, hi, hy]
  unfold dAppend
  simp only [ht, hi, he, hz', hs]
  cases ys with
  | nil => exact ⟨_, _, rfl, Nat.le_refl _, fun _ _ => rfl, .inl ⟨rfl, rfl⟩⟩
  | cons y1 yr =>
    simp only [List.length_nil, Nat.zero_add, hl, and_self, if_true, List.nil_append, true_and]
    exact ⟨_, _, rfl, by simp [-Option.bind_some, dNew], fun q hq => by simp only [dNew]; rw [List.getElem?_append_left hq], .inr (.inr ⟨h.length, Nat.le_refl _, rfl, by simp [-Option.bind_some, dNew]⟩)⟩
theorem s1008 (l : List Lin) (d : D) (h : Hp) (hd : SlOf 3 linr l d) (hl : l.length ≤ 1000000) : ∃ d', R fn1008 [d] h = some (d', h) ∧ SlOf 3 linr l d' := by
  rw [e1008]
  rcases hd with ⟨rfl, rfl⟩ | ⟨b, rfl⟩
  · exact ⟨.nils, by
      have hne : dBin tab .eql ty28 .nils .nils = some (.bool true) := id rfl
      simp [-Option.bind_some, F1008, hne, scope_eq (frz_nils _ _ _) .nils (Nat.le_refl _) (fun _ _ => rfl)], .nils _ _⟩
  · obtain ⟨x', h', e, hl', hq, ho⟩ := app_full (T := tab) (t := ty28) (i := ti28) (j := ti78) (h := h) (id rfl) (id rfl) (id rfl) (by decide) (y := .sl 3 b (l.map linr)) (rowsOf_sl _ _ _ _) (lim_ok (by have : ti78.by_ = 32 := rfl; rw [this, List.length_map]; omega) (by rw [List.length_map]; omega))
    have e' : dAppend tab h ty28 ty28 (.sl 3 true []) (.sl 3 b (l.map linr)) = some (x', h') := e
    have hne : dBin tab .eql ty28 (.sl 3 b (l.map linr)) .nils = some (.bool false) := id rfl
    have hsl : SlOf 3 linr l (frz h.length h' 4 x') := by
      rcases ho with ⟨rfl, hn⟩ | ho
      · have : l = [] := by simpa [-Option.bind_some] using hn
        subst this
        exact .inr ⟨true, rfl⟩
      · exact own_sl (n0 := h.length) (n := 3) ho (Nat.le_refl _) (fun a _ => linr_frz _ h' _ a)
    refine ⟨_, ?_, hsl⟩
    simp only [F1008, bs, hne, dIf_bool, Bool.false_eq_true, if_false, bs28_0, e', mkRes_one]
    exact scope_eq rfl (slof_ok hsl fun a _ => linr_ok _ a) hl' hq
theorem s1009 (l : List (Str × Str)) (d : D) (h : Hp) (hd : SlOf 2 fld l d) (hl : l.length ≤ 1000000) : ∃ d', R fn1009 [d] h = some (d', h) ∧ SlOf 2 fld l d' := by
  rw [e1009]
  rcases hd with ⟨rfl, rfl⟩ | ⟨b, rfl⟩
  · exact ⟨.nils, by
      have hne : dBin tab .eql ty29 .nils .nils = some (.bool true) := id rfl
      simp [-Option.bind_some, F1009, hne, scope_eq (frz_nils _ _ _) .nils (Nat.le_refl _) (fun _ _ => rfl)], .nils _ _⟩
  · obtain ⟨x', h', e, hl', hq, ho⟩ := app_full (T := tab) (t := ty29) (i := ti29) (j := ti109) (h := h) (id rfl) (id rfl) (id rfl) (by decide) (y := .sl 2 b (l.map fld)) (rowsOf_sl _ _ _ _) (lim_ok (by have : ti109.by_ = 32 := rfl; rw [this, List.length_map]; omega) (by rw [List.length_map]; omega))
    have e' : dAppend tab h ty29 ty29 (.sl 2 true []) (.sl 2 b (l.map fld)) = some (x', h') := e
    have hne : dBin tab .eql ty29 (.sl 2 b (l.map fld)) .nils = some (.bool false) := id rfl
    have hsl : SlOf 2 fld l (frz h.length h' 4 x') := by
      rcases ho with ⟨rfl, hn⟩ | ho
      · have : l = [] := by simpa [-Option.bind_some] using hn
        subst this
        exact .inr ⟨true, rfl⟩
      · exact own_sl (n0 := h.length) (n := 3) ho (Nat.le_refl _) (fun a _ => fld_frz _ h' _ a)
    refine ⟨_, ?_, hsl⟩
    simp only [F1009, bs, hne, dIf_bool, Bool.false_eq_true, if_false, bs29_0, e', mkRes_one]
    exact scope_eq rfl (slof_ok hsl fun a _ => fld_ok _ a) hl' hq
structure CutOf (i : It) (at_ : Int) (k : Nat) (j : It) : Prop where
  r : j.r = i.r
  a0 : j.e.a0 = i.e.a0
  a1 : j.e.a1 = i.e.a1
  a2 : j.e.a2 = at_
  a3 : j.e.a3 = i.e.a3
  a5 : j.e.a5 = i.e.a5
  a6 : j.e.a6 = i.e.a6
  s7 : j.e.s7 = i.e.s7
  s8 : j.e.s8 = i.e.s8
  ls : j.e.ls = i.e.ls.drop k
  fs : j.e.fs = i.e.fs
def it0 : It := ⟨[], ⟨0, 0, 0, 0, [], .nils, 0, 0, [], [], [], .nils, SlOf.nils _ _, by simp [-Option.bind_some], SlOf.nils _ _, by simp [-Option.bind_some]⟩⟩
theorem idx_range {α : Type} (pr : α → Bool) : ∀ (l : List α) (k : Nat), idx pr k l < 1 ∨ ((k : Int) ≤ idx pr k l ∧ idx pr k l < (k + l.length : Nat))
  | [], k => .inl (by simp [-Option.bind_some, idx])
  | x :: r, k => by
    unfold idx
    split
    · exact .inr ⟨Int.le_refl _, by simp [-Option.bind_some]; omega⟩
    · rcases idx_range pr r (k + 1) with h | ⟨h1, h2⟩
      · exact .inl h
      · exact .inr ⟨by omega, by simp [-Option.bind_some] at h2 ⊢; omega⟩
theorem s1002 (i : It) (n : Int) (h : Hp) (hl : i.e.ls.length ≤ 1000000) (hf : i.e.fs.length ≤ 1000000) : ∃ j, R fn1002 [.agg (itr i), .int .i64 n] h = some (.tup [.agg (itr j), .bool (decide (¬ idx (fun l => decide (l.off = n)) 0 i.e.ls < 1))], h) ∧ (if idx (fun l => decide (l.off = n)) 0 i.e.ls < 1 then j = it0 else CutOf i n (idx (fun l => decide (l.off = n)) 0 i.e.ls).toNat j) := by
  suffices Wp (R fn1002 [.agg (itr i), .int .i64 n] h) (fun p => p.2 = h ∧ ∃ j, p.1 = .tup [.agg (itr j), .bool (decide (¬ idx (fun l => decide (l.off = n)) 0 i.e.ls < 1))] ∧ (if idx (fun l => decide (l.off = n)) 0 i.e.ls < 1 then j = it0 else CutOf i n (idx (fun l => decide (l.off = n)) 0 i.e.ls).toNat j)) by
    obtain ⟨⟨x, h'⟩, h1, rfl, j, rfl, h2⟩ := this
    exact ⟨j, h1, h2⟩
  rw [e1002]
  simp only [F1002, bs, Option.bind_assoc, pBoxF_int]
  rw [wBox_agg ty74 11 h (itr i) rfl (by omega)]
  generalize hg0 : dNew h ty74 11 [itr i] = g0
  have hgl : g0.length = h.length + 1 := by simp [-Option.bind_some, ← hg0, dNew]
  have hb : ∀ q, q < h.length → g0[q]? = h[q]? := fun q hq => by simp only [← hg0, dNew]; rw [List.getElem?_append_left hq]
  have p8 : g0[h.length]? = some (.row ty74 11 [itr i]) := by simp [-Option.bind_some, ← hg0, dNew]
  clear hg0
  simp only [bs, hgl]
  generalize hg1 : dNew g0 ty74 11 [[.str [], .int .i64 0, .int .i64 0, .int .i64 0, .int .i64 0, .nils, .int .i64 0, .int .i64 0, .str [], .str [], .nils]] = g1
  have hgl1 : g1.length = h.length + 2 := by simp [-Option.bind_some, ← hg1, dNew, hgl]
  have hb1 : ∀ q, q < h.length + 1 → g1[q]? = g0[q]? := fun q hq => by simp only [← hg1, dNew]; rw [List.getElem?_append_left (by omega)]
  have p9 : g1[h.length + 1]? = some (.row ty74 11 [[.str [], .int .i64 0, .int .i64 0, .int .i64 0, .int .i64 0, .nils, .int .i64 0, .int .i64 0, .str [], .str [], .nils]]) := by
    simp only [← hg1, dNew]; rw [← hgl, List.getElem?_append_right (Nat.le_refl _)]; simp [-Option.bind_some]
  replace p8 := (hb1 h.length (by omega)).trans p8
  replace hb : ∀ q, q < h.length → g1[q]? = h[q]? := fun q hq => (hb1 q (by omega)).trans (hb q hq)
  clear hg1 hb1 hgl
  have r8 : g1.row h.length 0 = some [.str i.r, .int .i64 i.e.a0, .int .i64 i.e.a1, .int .i64 i.e.a2, .int .i64 i.e.a3, i.e.ld, .int .i64 i.e.a5, .int .i64 i.e.a6, .str i.e.s7, .str i.e.s8, i.e.fd] := row_of p8
  simp only [fap74_1, fap31_4, bs, ldp28, r8, List.drop_succ_cons, List.drop_zero, List.head?_cons, Nat.zero_add]
  rw [s1006 i.e.ls i.e.ld _ (fun l => decide (l.off = n)) g1 i.e.hld i.e.hll (fun x => by rw [callV_some]; exact s1007 x n g1)]
  generalize hk : idx (fun l => decide (l.off = n)) 0 i.e.ls = kk
  have hkr := idx_range (fun l : Lin => decide (l.off = n)) i.e.ls 0
  rw [hk] at hkr
  simp only [bs, dBin_lss]
  refine Wp.dif ?_ ?_
  · intro hlt
    have hlt : kk < 1 := by simpa [-Option.bind_some] using hlt
    simp only [bd74_, bs]
    refine wst74 p9 (by rfl) (by rfl) (by simp [-Option.bind_some]) (by rfl) fun g2 q9 s2 => ?_
    replace q9 : g2[h.length + 1]? = some (.row ty74 11 [itr it0]) := q9
    simp only [ldob11 q9 rfl, bs, mkRes_two]
    rw [scope_eq (d' := .tup [.agg (itr it0), .bool false]) (by rfl) (.tup _ fun d hd => by
      simp [-Option.bind_some] at hd
      rcases hd with rfl | rfl
      · exact itr_ok _ _
      · constructor) (by have := s2.1; omega) (fun q hq => (s2.2 q (by omega)).trans (hb q hq))]
    exact .some ⟨rfl, it0, by simp [-Option.bind_some, hlt], by simp [-Option.bind_some, hlt]⟩
  · intro hlt
    have hlt : ¬ kk < 1 := by simpa [-Option.bind_some] using hlt
    have hk1 : kk < i.e.ls.length := by
      rcases hkr with hh | ⟨_, hh⟩
      · omega
      · simpa [-Option.bind_some] using hh
    obtain ⟨y1, hs1, hy1⟩ := slof_lo (T := tab) (t := ty28) (i := ti28) (j := ti78) (id rfl) (id rfl) (id rfl) (id rfl) i.e.hld (k := .i64) (n := kk) (by omega) (by omega)
    obtain ⟨y2, hs2, hy2⟩ := s1008 _ y1 g1 hy1 (by simp [-Option.bind_some]; omega)
    simp only [ld3, hs1, hs2, bs, fap74_1, fap31_2, fap31_4, Nat.zero_add, chk_true]
    refine wst3 p8 (by rfl) (by rfl) (by simp [-Option.bind_some, itr, evr]) (by rfl) fun g2 q8 t2 => ?_
    have oc := one_cells (slof_one hy2)
    refine wst28 q8 (by rfl) (by rw [oc.1]; rfl) (by simp [-Option.bind_some, spl, cells1, itr, evr]) oc.2 fun g3 q8' t3 => ?_
    rw [oc.1] at q8'
    replace q8 : g3[h.length]? = some (.row ty74 11 [[.str i.r, .int .i64 i.e.a0, .int .i64 i.e.a1, .int .i64 n, .int .i64 i.e.a3, y2, .int .i64 i.e.a5, .int .i64 i.e.a6, .str i.e.s7, .str i.e.s8, i.e.fd]]) := q8'
    replace t2 := t2.trans t3
    clear q8' t3 hs1 hy1 oc
    obtain ⟨y3, hs3, hy3⟩ := s1009 _ _ g3 i.e.hfd hf
    have r8 : g3.row h.length 0 = some [.str i.r, .int .i64 i.e.a0, .int .i64 i.e.a1, .int .i64 n, .int .i64 i.e.a3, y2, .int .i64 i.e.a5, .int .i64 i.e.a6, .str i.e.s7, .str i.e.s8, i.e.fd] := row_of q8
    simp only [bs, fap31_9, Nat.zero_add, ldp29, r8, List.drop_succ_cons, List.drop_zero, List.head?_cons, hs3]
    have oc := one_cells (slof_one hy3)
    refine wst29 q8 (by rfl) (by rw [oc.1]; rfl) (by simp [-Option.bind_some]) oc.2 fun g4 q8' t4 => ?_
    rw [oc.1] at q8'
    replace q8 : g4[h.length]? = some (.row ty74 11 [itr ⟨i.r, ⟨i.e.a0, i.e.a1, n, i.e.a3, i.e.ls.drop kk.toNat, y2, i.e.a5, i.e.a6, i.e.s7, i.e.s8, i.e.fs, y3, hy3, i.e.hl, hy2, by have := i.e.hll; simp [-Option.bind_some]; omega⟩⟩]) := q8'
    replace t2 := t2.trans t4
    clear q8' t4 hs3 oc r8
    replace p9 := (t2.2 (h.length + 1) (by omega)).trans p9
    generalize hj : (⟨i.r, ⟨i.e.a0, i.e.a1, n, i.e.a3, i.e.ls.drop kk.toNat, y2, i.e.a5, i.e.a6, i.e.s7, i.e.s8, i.e.fs, y3, hy3, i.e.hl, hy2, by have := i.e.hll; simp [-Option.bind_some]; omega⟩⟩ : It) = j at q8
    have hcut : CutOf i n kk.toNat j := by subst hj; exact ⟨rfl, rfl, rfl, rfl, rfl, rfl, rfl, rfl, rfl, rfl, rfl⟩
    clear hj
    simp only [ldob11 q8 rfl, bs]
    refine wst74 p9 (by rfl) (by rfl) (by simp [-Option.bind_some]) (by rfl) fun g5 q9 t5 => ?_
    replace q9 : g5[h.length + 1]? = some (.row ty74 11 [itr j]) := q9
    simp only [ldob11 q9 rfl, bs, mkRes_two]
    have hfz : frz h.length g5 4 (.tup [.agg (itr j), .bool true]) = .tup [.agg (itr j), .bool true] := by
      simp only [frz_tup, frz_agg, List.map_cons, List.map_nil, frz_bool]
      rw [map_id_of fun d hd => itr_frz h.length g5 1 j d hd]
    rw [scope_eq hfz (.tup _ fun d hd => by
      simp [-Option.bind_some] at hd
      rcases hd with rfl | rfl
      · exact itr_ok _ _
      · constructor) (by have := t2.1; have := t5.1; omega) (fun q hq => ((t5.2 q (by omega)).trans (t2.2 q (by omega))).trans (hb q hq))]
    exact .some ⟨rfl, j, by simp [-Option.bind_some, hlt], by simp [-Option.bind_some, hlt]; exact hcut⟩
theorem s1003 (i : It) (n : Int) (h : Hp) (hl : i.e.ls.length ≤ 1000000) : ∃ j, R fn1003 [.agg (itr i), .int .i64 n] h = some (.tup [.agg (itr j), .bool (decide (¬ idx (fun l => decide (l.off = n)) 1 (i.e.ls.drop 1) < 1))], h) ∧ (if idx (fun l => decide (l.off = n)) 1 (i.e.ls.drop 1) < 1 then j = it0 else CutOf i n (idx (fun l => decide (l.off = n)) 1 (i.e.ls.drop 1)).toNat j) := by
  generalize hkk : idx (fun l : Lin => decide (l.off = n)) 1 (i.e.ls.drop 1) = kk
  suffices Wp (R fn1003 [.agg (itr i), .int .i64 n] h) (fun p => p.2 = h ∧ ∃ j, p.1 = .tup [.agg (itr j), .bool (decide (¬ kk < 1))] ∧ (if kk < 1 then j = it0 else CutOf i n kk.toNat j)) by
    obtain ⟨⟨x, h'⟩, h1, rfl, j, rfl, h2⟩ := this
    exact ⟨j, h1, h2⟩
  rw [e1003]
  simp only [F1003, bs, Option.bind_assoc]
  rw [wBox_agg ty74 11 h (itr i) rfl (by omega)]
  generalize hg0 : dNew h ty74 11 [itr i] = g0
  have hgl : g0.length = h.length + 1 := by simp [-Option.bind_some, ← hg0, dNew]
  have hb : ∀ q, q < h.length → g0[q]? = h[q]? := fun q hq => by simp only [← hg0, dNew]; rw [List.getElem?_append_left hq]
  have p8 : g0[h.length]? = some (.row ty74 11 [itr i]) := by simp [-Option.bind_some, ← hg0, dNew]
  clear hg0
  simp only [bs, hgl]
  generalize hg1 : dNew g0 ty74 11 [[.str [], .int .i64 0, .int .i64 0, .int .i64 0, .int .i64 0, .nils, .int .i64 0, .int .i64 0, .str [], .str [], .nils]] = g1
  have hgl1 : g1.length = h.length + 2 := by simp [-Option.bind_some, ← hg1, dNew, hgl]
  have hb1 : ∀ q, q < h.length + 1 → g1[q]? = g0[q]? := fun q hq => by simp only [← hg1, dNew]; rw [List.getElem?_append_left (by omega)]
  have p9 : g1[h.length + 1]? = some (.row ty74 11 [[.str [], .int .i64 0, .int .i64 0, .int .i64 0, .int .i64 0, .nils, .int .i64 0, .int .i64 0, .str [], .str [], .nils]]) := by
    simp only [← hg1, dNew]; rw [← hgl, List.getElem?_append_right (Nat.le_refl _)]; simp [-Option.bind_some]
  replace p8 := (hb1 h.length (by omega)).trans p8
  replace hb : ∀ q, q < h.length → g1[q]? = h[q]? := fun q hq => (hb1 q (by omega)).trans (hb q hq)
  clear hg1 hb1 hgl
  have r8 : g1.row h.length 0 = some [.str i.r, .int .i64 i.e.a0, .int .i64 i.e.a1, .int .i64 i.e.a2, .int .i64 i.e.a3, i.e.ld, .int .i64 i.e.a5, .int .i64 i.e.a6, .str i.e.s7, .str i.e.s8, i.e.fd] := row_of p8
  simp only [fap74_1, fap31_4, bs, ldp28, r8, List.drop_succ_cons, List.drop_zero, List.head?_cons, Nat.zero_add]
  refine Wp.loop (fun k ds g => g = g1 ∧ ∃ a b c, ∃ m : Nat, ds = [a, .int .i64 m, b, c] ∧ k + m = i.e.ls.length + 1 ∧ 1 ≤ m ∧ idx (fun l : Lin => decide (l.off = n)) m (i.e.ls.drop m) = kk)
      (fun x => (x.1 = .ext 0 ∧ x.2.2 = g1 ∧ kk < 1) ∨ (x.1 = .ret ∧ nth 0 x.2.1 = .bool true ∧ ¬ kk < 1 ∧ ∃ x1, Own x.2.2 h.length ty78 3 ((i.e.ls.drop kk.toNat).map linr) x1 ∧ x.2.2[h.length + 1]? = some (.row ty74 11 [[.str i.r, .int .i64 i.e.a0, .int .i64 i.e.a1, .int .i64 n, .int .i64 i.e.a3, x1, .int .i64 i.e.a5, .int .i64 i.e.a6, .str i.e.s7, .str i.e.s8, i.e.fd]]) ∧ h.length ≤ x.2.2.length ∧ ∀ q, q < h.length → x.2.2[q]? = h[q]?)) i.e.ls.length ⟨rfl, _, _, _, 1, rfl, rfl, Nat.le_refl _, hkk⟩ ?_ ?_
  · rintro k ds g ⟨rfl, a, b, c, m, rfl, hk, hm1, hidx⟩
    simp only [F1003_L0, nth_zero, nth_succ, bs, Option.bind_assoc, lens28 i.e.hld, dBin_lss]
    refine Wp.dif ?_ ?_
    · intro h0
      have h0 : m < i.e.ls.length := by have : (m : Int) < i.e.ls.length := by simpa [-Option.bind_some] using h0
                                        omega
      have hg : i.e.ls[m]? = some i.e.ls[m] := List.getElem?_eq_getElem h0
      have hw : IntKind.wrap .i64 ((m : Int) + 1) = ((m + 1 : Nat) : Int) := by
        rw [wrap_i64 (by omega) (by omega)]; omega
      rw [List.drop_eq_getElem_cons h0] at hidx
      generalize i.e.ls[m] = x at hg hidx
      simp only [ixs28 i.e.hld, Int.natCast_nonneg, if_true, Int.toNat_natCast, hg, Option.map_some, bs, linr, fa78_0, ld3, dBin_eql]
      refine Wp.dif ?_ ?_
      · intro hx
        have hkm : kk = m := by
          rw [← hidx]
          unfold idx
          rw [if_pos hx]
        obtain ⟨y1, hs1, hy1⟩ := slof_lo (T := tab) (t := ty28) (i := ti28) (j := ti78) (id rfl) (id rfl) (id rfl) (id rfl) i.e.hld (k := .i64) (n := (m : Int)) (by omega) (by omega)
        simp only [hs1, bs]
        refine wap28 (n0 := h.length) (by omega) (Own.nils _ _ _ _) (slof_rows _ hy1) (by simp [-Option.bind_some]; omega) fun x1 g2 ow1 len1 bel1 bel2 hnew => ?_
        rw [List.nil_append] at ow1
        replace p8 := (bel2 h.length (by omega) (by rintro ⟨_, _, hh⟩; cases hh)).trans p8
        replace p9 := (bel2 (h.length + 1) (by omega) (by rintro ⟨_, _, hh⟩; cases hh)).trans p9
        simp only [fap74_1, fap31_2, fap31_4, Nat.zero_add, bs]
        refine wst3 p8 (by rfl) (by rfl) (by simp [-Option.bind_some, itr, evr]) (by rfl) fun g3 q8 t2 => ?_
        have oc := one_cells (own_one ow1)
        refine wst28 q8 (by rfl) (by rw [oc.1]; rfl) (by simp [-Option.bind_some, spl, cells1, itr, evr]) oc.2 fun g4 q8' t3 => ?_
        rw [oc.1] at q8'
        replace q8 : g4[h.length]? = some (.row ty74 11 [[.str i.r, .int .i64 i.e.a0, .int .i64 i.e.a1, .int .i64 n, .int .i64 i.e.a3, x1, .int .i64 i.e.a5, .int .i64 i.e.a6, .str i.e.s7, .str i.e.s8, i.e.fd]]) := q8'
        replace t2 := t2.trans t3
        replace p9 := (t2.2 (h.length + 1) (by omega)).trans p9
        simp only [ldob11 q8 rfl, bs]
        refine wst74 p9 (by rfl) (by rfl) (by simp [-Option.bind_some]) (by rfl) fun g5 q9 t5 => ?_
        replace q9 : g5[h.length + 1]? = some (.row ty74 11 [[.str i.r, .int .i64 i.e.a0, .int .i64 i.e.a1, .int .i64 n, .int .i64 i.e.a3, x1, .int .i64 i.e.a5, .int .i64 i.e.a6, .str i.e.s7, .str i.e.s8, i.e.fd]]) := q9
        have ow2 : Own g5 h.length ty78 3 ((i.e.ls.drop kk.toNat).map linr) x1 := by
          subst hkm
          refine ow1.keep fun q hq hin => ?_
          have hqq : g.length ≤ q := by
            rcases hnew q hin with hh | hh
            · obtain ⟨_, _, hh⟩ := hh
              cases hh
            · exact hh
          exact (t5.2 q (by omega)).trans (t2.2 q (by omega))
        refine .some (.inr ⟨by simp [-Option.bind_some], .inr ⟨rfl, rfl, by omega, x1, ow2, q9, ?_, fun q hq => ?_⟩⟩)
        · show h.length ≤ g5.length
          have := t2.1; have := t5.1; omega
        · exact (((t5.2 q (by omega)).trans (t2.2 q (by omega))).trans (bel1 q hq)).trans (hb q hq)
      · intro hx
        have hx : ¬ decide (x.off = n) = true := by simp [-Option.bind_some, hx]
        unfold idx at hidx
        rw [if_neg hx] at hidx
        simp only [dBin_add, bs, hw]
        exact .some (.inl ⟨rfl, k - 1, by omega, rfl, _, _, _, m + 1, rfl, by omega, by omega, hidx⟩)
    · intro h0
      have h0 : i.e.ls.length ≤ m := by have : ¬ (m : Int) < i.e.ls.length := by simpa [-Option.bind_some] using h0
                                        omega
      rw [List.drop_of_length_le h0] at hidx
      have : kk = -1 := hidx.symm
      exact .some (.inr ⟨by simp [-Option.bind_some], .inl ⟨rfl, rfl, by omega⟩⟩)
  · rintro ⟨ex, ds, g⟩ hp
    rcases hp with ⟨h1, h2, hlt⟩ | ⟨h1, h2, hlt, x1, ow, q9, hgl, hgq⟩
    · simp only at h1 h2
      subst h1; subst h2
      simp only [unblk_self, toEnd_nrm, bd74_, bs]
      refine wst74 p9 (by rfl) (by rfl) (by simp [-Option.bind_some]) (by rfl) fun g2 q9 s2 => ?_
      replace q9 : g2[h.length + 1]? = some (.row ty74 11 [itr it0]) := q9
      simp only [ldob11 q9 rfl, bs, mkRes_two]
      rw [scope_eq (d' := .tup [.agg (itr it0), .bool false]) (by rfl) (.tup _ fun d hd => by
        simp [-Option.bind_some] at hd
        rcases hd with rfl | rfl
        · exact itr_ok _ _
        · constructor) (by have := s2.1; omega) (fun q hq => (s2.2 q (by omega)).trans (hb q hq))]
      exact .some ⟨rfl, it0, by simp [-Option.bind_some, hlt], by simp [-Option.bind_some, hlt]⟩
    · simp only at h1 h2 ow q9 hgl hgq
      subst h1
      simp only [unblk_ret, toEnd_ret, exEnd_ret, nth_zero, h2, ldob11 q9 rfl, bs, mkRes_two]
      have hsl := own_sl (n0 := h.length) (n := 1) ow (Nat.le_refl _) (fun a _ => linr_frz _ g _ a)
      have hfy : frz h.length g 2 i.e.fd = i.e.fd := slof_frz i.e.hfd (fun a _ => fld_frz _ g _ a)
      generalize hj : (⟨i.r, ⟨i.e.a0, i.e.a1, n, i.e.a3, i.e.ls.drop kk.toNat, frz h.length g 2 x1, i.e.a5, i.e.a6, i.e.s7, i.e.s8, i.e.fs, i.e.fd, i.e.hfd, i.e.hl, hsl, by have := i.e.hll; simp [-Option.bind_some]; omega⟩⟩ : It) = j
      have hcut : CutOf i n kk.toNat j := by subst hj; exact ⟨rfl, rfl, rfl, rfl, rfl, rfl, rfl, rfl, rfl, rfl, rfl⟩
      rw [scope_eq (d' := .tup [.agg (itr j), .bool true]) (by subst hj; simp [-Option.bind_some, itr, evr, hfy]) (.tup _ fun d hd => by
        simp [-Option.bind_some] at hd
        rcases hd with rfl | rfl
        · exact itr_ok _ _
        · constructor) hgl hgq]
      exact .some ⟨rfl, j, by simp [-Option.bind_some, hlt], by simp [-Option.bind_some, hlt]; exact hcut⟩
def inr (n : Int) : List D := [.int .i64 n]
def orI : List Int → Int
  | [] => 0
  | x :: r => if x = 0 then orI r else x
theorem l89 (l : List Int) (d : D) (h : Hp) (hd : SlOf 1 inr l d) (hl : l.length ≤ 9223372036854775807) {β : Type} (K : Out → Option β) (X : Int → Option β)
   (hX : ∀ v r, K (.ret, .int .i64 v :: r, h) = X v) (hY : ∀ r, K (.ext 0, r, h) = X 0) : ∀ (suf pre : List Int), l = pre ++ suf → ∀ n : Int, n = pre.length → ∀ a b e f,
   (loopW (F89_L0 (.int .i64 0) d (.int .i64 l.length)) [a, b, .int .i64 n, e, f] h).bind K = X (orI suf) := by
  intro suf
  induction suf with
  | nil =>
    rintro pre rfl n rfl a b e f
    rw [loopW_eq]
    simp [-Option.bind_some, F89_L0, hY, orI]
  | cons p suf ih =>
    rintro pre rfl n rfl a b e f
    have hw : IntKind.wrap .i64 ((pre.length : Int) + 1) = (pre ++ [p]).length := by
      rw [wrap_i64 (by omega) (by simp [-Option.bind_some] at hl; omega)]; simp [-Option.bind_some]
    have hlt : (pre.length : Int) < (pre ++ p :: suf).length := by simp [-Option.bind_some]; omega
    rw [loopW_eq]
    generalize hL : pre ++ p :: suf = L at *
    have hg : L[pre.length]? = some p := by rw [← hL]; exact get_mid _ _ _
    by_cases hp : p = 0
    · subst hp
      have := ih (pre ++ [0]) (by simp [-Option.bind_some, ← hL]) _ rfl a (.int .i64 0) (.bool true) (.bool false)
      simp only [← hw] at this
      simp [-Option.bind_some, F89_L0, ixs82 hd, hlt, hg, inr, orI]
      exact this
    · simp [-Option.bind_some, F89_L0, ixs82 hd, hlt, hg, inr, hp, hX, orI]
theorem s89 (l : List Int) (d : D) (h : Hp) (hd : SlOf 1 inr l d) (hl : l.length ≤ 9223372036854775807) : R fn89 [d] h = some (.int .i64 (orI l), h) := by
  rw [e89]
  simp only [F89, bs, lens82 hd, Option.bind_assoc]
  rw [l89 l d h hd hl _ (fun v => some (.int .i64 v, h)) (fun v r => by simp [-Option.bind_some]) (fun r => by simp [-Option.bind_some]) l [] rfl 0 rfl]
structure Mrk where
  h : Int
  f : Int
  o : Int
  deriving DecidableEq
def mrkr (m : Mrk) : List D := [.int .i64 m.h, .int .i64 m.f, .int .i64 m.o]
theorem mrkr_ld (m : Mrk) (h : Hp) : dLoad tab h ty1006 (.fptr (mrkr m)) = some (.agg (mrkr m)) := id rfl
def cmpM (a b : Mrk) : Int := orI [cmpI a.h b.h, cmpI a.f b.f]
theorem s1017 (a b : Mrk) (h : Hp) : R fn1017 [.agg (mrkr a), .agg (mrkr b)] h = some (.int .i64 (cmpM a b), h) := by
  have hb : ∀ n0 n1 : Int, pLitF tab ty82 2 [0, 1] [.int .i64 n0, .int .i64 n1] = some (.sl 1 true ([n0, n1].map inr)) := fun n0 n1 => id rfl
  have h89 := s89 [cmpI a.h b.h, cmpI a.f b.f] (.sl 1 true [inr (cmpI a.h b.h), inr (cmpI a.f b.f)]) h (SlOf.mk 1 inr [cmpI a.h b.h, cmpI a.f b.f] true) (by simp [-Option.bind_some])
  rw [e1017]
  simp [-Option.bind_some, F1017, mrkr, s90, hb, h89, cmpM]
theorem s1016 (l : List Mrk) (d : D) (t : Mrk) (fn : D) (c : Mrk → Int) (h : Hp) (hd : SlOf 3 mrkr l d) (hl : l.length ≤ 1000000) (hf : ∀ x, callV R fn [.agg (mrkr x), .agg (mrkr t)] h = some (.int .i64 (c x), h))
   (k : Nat) (hk : k ≤ l.length) (h1 : ∀ i x, l[i]? = some x → i < k → c x < 0) (h2 : ∀ i x, l[i]? = some x → k ≤ i → 0 ≤ c x) :
   R fn1016 [d, .agg (mrkr t), fn] h = some (.tup [.int .i64 k, .bool (match l[k]? with | some x => decide (c x = 0) | none => false)], h) := by
  suffices Wp (R fn1016 [d, .agg (mrkr t), fn] h) (fun p => p = (.tup [.int .i64 k, .bool (match l[k]? with | some x => decide (c x = 0) | none => false)], h)) by
    obtain ⟨p, h1, rfl⟩ := this
    exact h1
  rw [e1016]
  simp only [F1016, pBoxF_agg, bs, Option.bind_assoc, lens1007 hd]
  refine Wp.loop (fun n ds g => g = h ∧ ∃ a b e, ∃ lo hi : Nat, ds = [.int .i64 lo, .int .i64 hi, a, b, e] ∧ lo ≤ k ∧ k ≤ hi ∧ hi ≤ l.length ∧ n = hi - lo)
      (fun x => x.1 = .ext 0 ∧ x.2.2 = h ∧ nth 0 x.2.1 = .int .i64 k) l.length ⟨rfl, _, _, _, 0, l.length, rfl, by omega, hk, Nat.le_refl _, rfl⟩ ?_ ?_
  · rintro n ds g ⟨rfl, a, b, e, lo, hi, rfl, hlo, hhi, hle, rfl⟩
    simp only [F1016_L0, nth_zero, nth_succ, bs, Option.bind_assoc, dBin_lss]
    refine Wp.dif ?_ ?_
    · intro h0
      have h0 : lo < hi := by have : (lo : Int) < hi := by simpa [-Option.bind_some] using h0
                              omega
      have hw : IntKind.wrap .i64 ((lo : Int) + hi) = ((lo + hi : Nat) : Int) := by
        rw [wrap_i64 (by omega) (by omega)]; omega
      have hw2 : IntKind.wrap .u64 ((lo + hi : Nat) : Int) = ((lo + hi : Nat) : Int) := by
        unfold IntKind.wrap
        simp [-Option.bind_some, IntKind.signed, IntKind.bits, IntKind.min, IntKind.max]
        omega
      have hw3 : (((lo + hi : Nat) : Int)).fdiv (2 ^ (min (Int.toNat 1) IntKind.u64.bits)) = (((lo + hi) / 2 : Nat) : Int) := by
        rw [show (2 : Int) ^ (min (Int.toNat 1) IntKind.u64.bits) = 2 by decide]
        rw [Int.fdiv_eq_ediv_of_nonneg _ (by omega)]
        omega
      have hw4 : IntKind.wrap .i64 (((lo + hi) / 2 : Nat) : Int) = (((lo + hi) / 2 : Nat) : Int) := wrap_i64 (by omega) (by omega)
      have hw5 : IntKind.wrap .i64 ((((lo + hi) / 2 : Nat) : Int) + 1) = (((lo + hi) / 2 + 1 : Nat) : Int) := by
        rw [wrap_i64 (by omega) (by omega)]; omega
      have hm : (lo + hi) / 2 < l.length := by omega
      have hm1 : lo ≤ (lo + hi) / 2 := by omega
      have hm2 : (lo + hi) / 2 < hi := by omega
      generalize (lo + hi) / 2 = mid at *
      have hg : l[mid]? = some l[mid] := List.getElem?_eq_getElem hm
      generalize l[mid] = x at hg
      simp only [dBin_add, hw, cv3_134, cv134_3, bs, hw2, dBin_shr, show ¬ (1 : Int) < 0 by omega, if_false, hw3, hw4, ixs1007 hd, Int.natCast_nonneg, if_true, Int.toNat_natCast, hg, Option.map_some, mrkr_ld, hf, dBin_lss]
      by_cases hc : c x < 0
      · have hkm : mid < k := by
          rcases Nat.lt_or_ge mid k with hh | hh
          · exact hh
          · have := h2 mid x hg hh
            omega
        simp only [hc, decide_true, dIf_bool, if_true, bs, hw5, unblk_nrm, nth_zero, nth_succ]
        exact .some (.inl ⟨rfl, hi - (mid + 1), by omega, rfl, _, _, _, mid + 1, hi, rfl, by omega, hhi, hle, rfl⟩)
      · have hkm : k ≤ mid := by
          rcases Nat.lt_or_ge mid k with hh | hh
          · exact absurd (h1 mid x hg hh) hc
          · exact hh
        simp only [hc, decide_false, dIf_bool, Bool.false_eq_true, if_false, bs, unblk_nrm, nth_zero, nth_succ]
        exact .some (.inl ⟨rfl, mid - lo, by omega, rfl, _, _, _, lo, mid, rfl, hlo, hkm, by omega, rfl⟩)
    · intro h0
      have h0 : lo = k := by have : ¬ (lo : Int) < hi := by simpa [-Option.bind_some] using h0
                             omega
      subst h0
      exact .some (.inr ⟨by simp [-Option.bind_some], rfl, rfl, rfl⟩)
  · rintro ⟨ex, ds, g⟩ ⟨q1, q2, q3⟩
    simp only at q1 q2 q3
    subst q1; subst q2
    simp only [unblk_self, toEnd_nrm, nth_zero, q3, bs, dBin_lss]
    by_cases hkl : k < l.length
    · have hg : l[k]? = some l[k] := List.getElem?_eq_getElem hkl
      have hlt : (k : Int) < l.length := by omega
      generalize l[k] = x at hg
      simp only [hlt, decide_true, gd_bool, if_true, bs, ixs1007 hd, Int.natCast_nonneg, Int.toNat_natCast, hg, Option.map_some, mrkr_ld, gdW_bool, hf, dBin_eql, dPick_bool, mkRes_two]
      exact .some rfl
    · have hg : l[k]? = none := List.getElem?_eq_none (by omega)
      have hlt : ¬ (k : Int) < l.length := by omega
      simp only [hlt, decide_false, gd_bool, Bool.false_eq_true, if_false, bs, gdW_bool, dPick_bool, mkRes_two, hg]
      exact .some rfl
theorem s1013 (l : List Mrk) (d : D) (hst fil : Int) (h : Hp) (hd : SlOf 3 mrkr l d) (hl : l.length ≤ 1000000)
   (k : Nat) (hk : k ≤ l.length) (h1 : ∀ i x, l[i]? = some x → i < k → cmpM x ⟨hst, fil, 0⟩ < 0) (h2 : ∀ i x, l[i]? = some x → k ≤ i → 0 ≤ cmpM x ⟨hst, fil, 0⟩) :
   R fn1013 [d, .int .i64 hst, .int .i64 fil] h = some (.tup [.int .i64 k, .bool (match l[k]? with | some x => decide (cmpM x ⟨hst, fil, 0⟩ = 0) | none => false)], h) := by
  have hb : dBuild tab ty1006 [0, 1] [.int .i64 hst, .int .i64 fil] = some (.agg (mrkr ⟨hst, fil, 0⟩)) := id rfl
  rw [e1013]
  simp only [F1013, bs, hb, Option.bind_assoc]
  rw [s1016 l d ⟨hst, fil, 0⟩ (.fn (.func fn1017) [] []) (fun x => cmpM x ⟨hst, fil, 0⟩) h hd hl (fun x => by rw [callV_some]; exact s1017 x _ h) k hk h1 h2]
  rfl
theorem s1001 (h : Hp) : R fn1001 [] h = some (.bool true, h) := by
  have h1 : dBuild tab ty1006 [0, 1, 2] [.int .i64 1, .int .i64 2, .int .i64 3] = some (.agg (mrkr ⟨1, 2, 3⟩)) := id rfl
  have h2 : pLitF tab ty1007 1 [0] [.agg (mrkr ⟨1, 2, 3⟩)] = some (.sl 3 true ([(⟨1, 2, 3⟩ : Mrk)].map mrkr)) := id rfl
  have h3 := s1013 [⟨1, 2, 3⟩] (.sl 3 true ([(⟨1, 2, 3⟩ : Mrk)].map mrkr)) 1 2 h (SlOf.mk _ _ _ _) (by simp [-Option.bind_some]) 0 (by simp [-Option.bind_some]) (fun i x _ hi => by omega) (fun i x hx _ => by
    cases i with
    | zero => simp [-Option.bind_some] at hx; subst hx; decide
    | succ i => simp [-Option.bind_some] at hx)
  have h4 : (match [(⟨1, 2, 3⟩ : Mrk)][0]? with | some x => decide (cmpM x ⟨1, 2, 0⟩ = 0) | none => false) = true := by decide
  rw [h4] at h3
  have h5 : ∀ d : D, d.one = true → dBuild tab ty1009 [0] [d] = some (.agg [d, .nils]) := fun d h0 => bd1009_0 d h0
  have h6 : ∀ d : D, pBoxF (.agg [d, .nils]) = some (.fptr [d, .nils]) := fun d => id rfl
  have h7 : dLoad tab h ty3 (.fptr [.int .i64 3]) = some (.int .i64 3) := id rfl
  rw [e1001]
  simp only [F1001, bs, h1, h2, h5 _ (show D.one (.sl 3 true ([(⟨1, 2, 3⟩ : Mrk)].map mrkr)) = true from rfl), e1005, F1005, pBoxF_agg, fa1009_0, ld1007, h3, dExtract_tup, List.getElem?_cons_zero, List.getElem?_cons_succ, dIf_bool, if_true, ixs1007 (SlOf.mk 3 mrkr [(⟨1, 2, 3⟩ : Mrk)] true), Option.map_some, mkRes_one, Int.natCast_nonneg, Int.toNat_natCast, Option.bind_assoc]
  simp [-Option.bind_some, mrkr]
theorem chain_lb : ∀ (ls : List Lin) (a b : Int), chain a ls b → ∀ l ∈ ls, a ≤ l.off
  | [], a, b, _, l, hl => by simp [-Option.bind_some] at hl
  | x :: r, a, b, h, l, hl => by
    rcases List.mem_cons.1 hl with rfl | hl
    · exact Int.le_of_eq h.1.symm
    · have := chain_lb r _ b h.2.2.2.2 l hl
      have := h.2.1
      omega
theorem chain_drop : ∀ (ls : List Lin) (a b : Int), chain a ls b → ∀ k x, ls[k]? = some x → chain x.off (ls.drop k) b ∧ a ≤ x.off
  | [], a, b, _, k, x, hk => by simp [-Option.bind_some] at hk
  | y :: r, a, b, h, 0, x, hk => by
    simp [-Option.bind_some] at hk
    subst hk
    have h' := h
    rw [← h.1] at h'
    exact ⟨h', Int.le_of_eq h.1.symm⟩
  | y :: r, a, b, h, k + 1, x, hk => by
    have := chain_drop r _ b h.2.2.2.2 k x hk
    have h1 := h.2.1
    exact ⟨this.1, by omega⟩
theorem idx_none {α : Type} (pr : α → Bool) : ∀ (l : List α) (k : Nat), (∀ x ∈ l, pr x = false) → idx pr k l = -1
  | [], k, _ => rfl
  | x :: r, k, h => by
    unfold idx
    rw [if_neg (by rw [h x (by simp [-Option.bind_some])]; simp [-Option.bind_some])]
    exact idx_none pr r (k + 1) fun y hy => h y (by simp [-Option.bind_some, hy])
theorem idx_some {α : Type} (pr : α → Bool) : ∀ (l : List α) (k : Nat) (m : Int), idx pr k l = m → ¬ m < 0 → ∃ x, l[m.toNat - k]? = some x ∧ pr x = true ∧ (k : Int) ≤ m
  | [], k, m, h, hm => by simp [-Option.bind_some, idx] at h; omega
  | x :: r, k, m, h, hm => by
    unfold idx at h
    split at h
    · rename_i hp
      subst h
      exact ⟨x, by simp [-Option.bind_some], hp, Int.le_refl _⟩
    · obtain ⟨y, h1, h2, h3⟩ := idx_some pr r (k + 1) m h hm
      refine ⟨y, ?_, h2, by omega⟩
      rw [show m.toNat - k = (m.toNat - (k + 1)) + 1 by omega]
      exact h1
theorem idx_two (n : Int) (ls : List Lin) (a b : Int) (h : chain a ls b) : (idx (fun l : Lin => decide (l.off = n)) 0 ls < 1 ∧ idx (fun l : Lin => decide (l.off = n)) 1 (ls.drop 1) < 1) ∨ idx (fun l : Lin => decide (l.off = n)) 1 (ls.drop 1) = idx (fun l : Lin => decide (l.off = n)) 0 ls := by
  cases ls with
  | nil => exact .inr rfl
  | cons x r =>
    by_cases hx : x.off = n
    · left
      have h0 : idx (fun l : Lin => decide (l.off = n)) 0 (x :: r) = 0 := by simp [-Option.bind_some, idx, hx]
      have h1 : idx (fun l : Lin => decide (l.off = n)) 1 r = -1 := idx_none _ r 1 fun y hy => by
        have := chain_lb r _ b h.2.2.2.2 y hy
        have h1 := h.2.1
        have h2 := h.1
        simp [-Option.bind_some]; omega
      exact ⟨by rw [h0]; omega, by simpa [-Option.bind_some] using (show idx (fun l : Lin => decide (l.off = n)) 1 r < 1 by rw [h1]; omega)⟩
    · right
      simp [-Option.bind_some, idx, hx]
theorem asc_of {l : List (Str × Str)} (h : (l.map (·.1)).Sublist lt98_9) : Asc l := by
  have hp : lt98_9.Pairwise fun a b => Op.bytesLess a b = true ∧ a ≠ b := by decide
  have := hp.sublist h
  rw [List.pairwise_iff_getElem] at this
  intro i p q h1 h2
  obtain ⟨g1, h1⟩ := List.getElem?_eq_some_iff.1 h1
  obtain ⟨g2, h2⟩ := List.getElem?_eq_some_iff.1 h2
  have := this i (i + 1) (by simpa [-Option.bind_some] using g1) (by simpa [-Option.bind_some] using g2) (by omega)
  simpa [-Option.bind_some, h1, h2] using this
theorem fn_of {l : List (Str × Str)} (h : (l.map (·.1)).Sublist lt98_9) : ∀ p ∈ l, fnameOK p.1 = true ∧ p.1.length ≤ 1000 := by
  intro p hp
  have hm : p.1 ∈ lt98_9 := h.subset (List.mem_map.2 ⟨p, hp, rfl⟩)
  exact (show ∀ s ∈ lt98_9, fnameOK s = true ∧ s.length ≤ 1000 by decide) _ hm
theorem cut_good {hst fil fr n : Int} {i j : It} (hi : ItOK hst fil fr i) (h0 : 0 ≤ hst) (h9 : hst ≤ 999) (f0 : 0 ≤ fil) (f9 : fil ≤ 1000) (r0 : 0 ≤ fr) (r9 : fr ≤ 50000) {k : Int} (hk : idx (fun l : Lin => decide (l.off = n)) 0 i.e.ls = k) (hk1 : ¬ k < 1) (hc : CutOf i n k.toNat j) : (j.r = [] ∧ EvGood j.e) ∨ SkGood j := by
  obtain ⟨x, hx, hp, _⟩ := idx_some _ _ _ _ hk (by omega)
  have hn : x.off = n := by simpa [-Option.bind_some] using hp
  rw [Nat.sub_zero] at hx
  obtain ⟨ch, hle⟩ := chain_drop _ _ _ hi.ch _ _ hx
  rw [hn] at ch hle
  have hlt := (List.getElem?_eq_some_iff.1 hx).1
  have c1 := chain_le _ _ _ hi.ch
  have c2 := chain_le _ _ _ ch
  have hn3 := hi.n3
  have hdl : (i.e.ls.drop k.toNat).length = i.e.ls.length - k.toNat := List.length_drop
  have pl : PlOK j.e := ⟨by rw [hc.a0, hi.host]; exact h0, by rw [hc.a0, hi.host]; exact h9, by rw [hc.a1, hi.file]; exact f0, by rw [hc.a1, hi.file]; omega, by rw [hc.a2]; omega, by rw [hc.a2, hc.a3]; omega, by rw [hc.a3]; omega⟩
  have l1 : 1 ≤ j.e.ls.length := by rw [hc.ls]; omega
  have l4 : j.e.ls.length ≤ 40 := by rw [hc.ls]; omega
  have chj : chain j.e.a2 j.e.ls j.e.a3 := by rw [hc.a2, hc.ls, hc.a3]; exact ch
  by_cases hr : i.r = []
  · left
    obtain ⟨e1, e2, e3, e4, e5, e6, e7, e8⟩ := hi.ev hr
    have e9 := hi.wt hr
    have hfl : i.e.fs.length ≤ 4 := by
      have := e7.1.length_le
      simpa [-Option.bind_some] using this
    refine ⟨by rw [hc.r, hr], pl, by rw [hc.a5]; exact e1, by rw [hc.a5]; exact e2, by rw [hc.a6]; exact e3, by rw [hc.a6]; exact e4, by rw [hc.a6]; exact e9, l1, l4, chj, ?_, ?_, by rw [hc.fs]; omega, by rw [hc.fs]; exact fn_of e7.1, by rw [hc.fs]; exact asc_of e7.1, ?_⟩
    · rw [hc.s7]; exact (show ∀ s ∈ lt98_5, s.length ≤ 32 by decide) _ e5
    · rw [hc.s8]; exact (show ∀ s ∈ lt98_6, s.length ≤ 32 by decide) _ e6
    · rw [hc.fs]; intro p hp; have := e7.2 p hp; omega
  · right
    obtain ⟨e1, e2, e3, e4, e5, e6, e7⟩ := hi.sk hr
    refine ⟨by rw [hc.r]; exact hr, ?_, pl, l1, l4, chj, by rw [hc.a5]; exact e2, by rw [hc.a6]; exact e3, by rw [hc.s7]; exact e4, by rw [hc.s8]; exact e5, by rw [hc.fs]; exact e6, ?_⟩
    · rw [hc.r]; exact (show ∀ s ∈ lt98_4, s.length ≤ 32 by decide) _ e1
    · rw [hc.ls]; intro l hl; exact e7 l (List.mem_of_mem_drop hl)
theorem cut_same {i j j' : It} {n : Int} {k : Nat} (h : CutOf i n k j) (h' : CutOf i n k j') : sameI j j' = true := by
  simp [-Option.bind_some, sameI, sameE, h.r, h'.r, h.a0, h'.a0, h.a1, h'.a1, h.a2, h'.a2, h.a3, h'.a3, h.a5, h'.a5, h.a6, h'.a6, h.s7, h'.s7, h.s8, h'.s8, h.ls, h'.ls, h.fs, h'.fs]
end Go.Proofs.Ytehmpfcealdihaa
