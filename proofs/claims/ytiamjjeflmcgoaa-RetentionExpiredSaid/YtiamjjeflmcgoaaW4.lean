import Derived.Test.YtiamjjeflmcgoaaW3
import Derived.Test.YtiamjjeflmcgoaaS4
set_option linter.unusedSimpArgs false
set_option linter.unusedVariables false
set_option linter.unnecessarySimpa false
namespace Go.Proofs.Ytiamjjeflmcgoaa
open Go.Eng Go.Pi
/-- What a function that draws has done so far. -/
structure St (h0 : Hp) (o : Nat) (g : Hp) : Prop where
  lt : o < h0.length
  cd : CD g o
  gr : Grow h0.length o h0 g
theorem St.refl {h : Hp} {o : Nat} (hc : CD h o) : St h o h := ⟨hc.lt, hc, .refl _ _ _⟩
theorem St.next {h0 g g' : Hp} {o : Nat} (s : St h0 o g) (hc : CD g' o) (hs : Same o g g') : St h0 o g' := ⟨s.lt, hc, s.gr.trans hs.grow⟩
theorem St.app {h0 g g' : Hp} {o : Nat} (s : St h0 o g) (hl : g.length ≤ g'.length) (hb : ∀ q, q < h0.length → g'[q]? = g[q]?) : St h0 o g' := ⟨s.lt, s.cd.keep (hb o s.lt), s.gr.trans ⟨hl, fun q hq _ => hb q hq⟩⟩
theorem St.le {h0 g : Hp} {o : Nat} (s : St h0 o g) : h0.length ≤ g.length := s.gr.1
theorem St.scope {h0 g : Hp} {o : Nat} (s : St h0 o g) {d d' : D} (hd : frz h0.length g 4 d = d') (hok : Ok h0.length d') : ∃ h', scope h0 g d = some (d', h') ∧ CD h' o ∧ Same o h0 h' := by
  obtain ⟨h1, h2, h3⟩ := scope_same hd hok s.gr (s.cd.ok h0.length)
  exact ⟨_, h1, s.cd.keep (h3 o s.lt), h2⟩
theorem d44 (zs : List Int) (d : D) (n : Int) (h : Hp) (hd : Given .u8 zs d) (hn : 0 ≤ n) (hn2 : n ≤ 400) (hz : ∀ z ∈ zs, 0 ≤ z ∧ z < 256) : ∃ h', R 44 [d, .int .i64 n] h = some (.ptr h.length 0 0, h') ∧ CD h' h.length ∧ h'.length = h.length + 1 := by
  rw [e44]
  have hm : ∃ m : Int, dMin (.int .i64 zs.length) (.int .i64 n) = some (.int .i64 m) ∧ 0 ≤ m ∧ m ≤ zs.length ∧ m ≤ 400 := by
    rw [dMin_int]
    split
    · exact ⟨_, rfl, by omega, by omega, by omega⟩
    · exact ⟨_, rfl, by omega, by omega, by omega⟩
  obtain ⟨m, hm, h0, h1, h2⟩ := hm
  obtain ⟨d', hs, hg⟩ := given_hi (T := tab) (t := 22) (i := ti22) (j := ti5) (id rfl) (id rfl) (id rfl) (id rfl) hd (k2 := .i64) h0 h1
  simp only [F44, bs, given_len hd, hm, hs, bd101_0 d' (given_one hg)]
  rw [wBox_agg 101 2 h [d', .int .i64 0] rfl (by omega)]
  refine ⟨_, rfl, ⟨_, d', zs.take m.toNat, 0, by simp [-Option.bind_some, dNew], hg, ?_, rfl, fun z hz' => hz z (List.mem_of_mem_take hz')⟩, by simp [-Option.bind_some, dNew]⟩
  simp [-Option.bind_some]; omega
theorem d47 {h : Hp} {o : Nat} (hc : CD h o) : ∃ n h', R 47 [.ptr o 0 0] h = some (.int .i64 n, h') ∧ CD h' o ∧ Same o h h' ∧ -9223372036854775808 ≤ n ∧ n ≤ 9223372036854775807 := by
  obtain ⟨v, h', h1, h2, h3, h4, h5⟩ := next_b hc 16 (by omega) (by omega)
  rw [e47]
  by_cases v0 : v = 15
  · obtain ⟨u, g', g1, g2, g3, g4, g5⟩ := next_b h2 6 (by omega) (by omega)
    obtain ⟨s, hs, hg⟩ := pick_of lt82_3 u g4 g5
    have := (show ∀ s ∈ lt82_3, -9223372036854775808 ≤ s ∧ s ≤ 9223372036854775807 by decide) s hs
    refine ⟨s, g', ?_, g2, h3.trans g3, this.1, this.2⟩
    simp [-Option.bind_some, F47, h1, v0, g1, g4, hg]
  · obtain ⟨u, g', g1, g2, g3, g4, g5⟩ := next_b h2 256 (by omega) (by omega)
    obtain ⟨w, k', k1, k2, k3, k4, k5⟩ := next_b g2 6 (by omega) (by omega)
    have hq : ¬ w < 0 := by omega
    generalize hp : (2 ^ (min w.toNat IntKind.i64.bits) : Int) = p
    have hpp : 0 < p := by rw [← hp]; exact Int.pow_pos (by omega)
    have hf : 0 ≤ u.fdiv p ∧ u.fdiv p ≤ u := by
      rw [Int.fdiv_eq_ediv_of_nonneg _ (by omega)]
      exact ⟨Int.ediv_nonneg g4 (by omega), Int.ediv_le_self _ g4⟩
    have ht : 0 ≤ v.tdiv 8 ∧ v.tdiv 8 ≤ 1 := by
      rw [Int.tdiv_eq_ediv_of_nonneg h4]; omega
    refine ⟨u.fdiv p - v.tdiv 8, k', ?_, k2, (h3.trans g3).trans k3, by omega, by omega⟩
    simp [-Option.bind_some, F47, h1, v0, g1, k1, hq, hp, wrap_i64 (n := v.tdiv 8) (by omega) (by omega), wrap_i64 (n := u.fdiv p - v.tdiv 8) (by omega) (by omega)]
theorem polr_frz (n0 : Nat) (h : Hp) (n : Nat) (p : Pol) : ∀ d ∈ polr p, frz n0 h n d = d := by simp [-Option.bind_some, polr]
theorem polr_ok (n : Nat) (p : Pol) : ∀ d ∈ polr p, Ok n d := by
  intro d hd
  simp [-Option.bind_some, polr] at hd
  rcases hd with rfl | rfl | rfl | rfl <;> constructor
theorem hldr_frz (n0 : Nat) (h : Hp) (n : Nat) (p : Hld) : ∀ d ∈ hldr p, frz n0 h n d = d := by simp [-Option.bind_some, hldr]
theorem hldr_ok (n : Nat) (p : Hld) : ∀ d ∈ hldr p, Ok n d := by
  intro d hd
  simp [-Option.bind_some, hldr] at hd
  rcases hd with rfl | rfl | rfl | rfl | rfl <;> constructor
theorem d45 {h : Hp} {o : Nat} (hc : CD h o) : ∃ x h', R 45 [.ptr o 0 0] h = some (x, h') ∧ CD h' o ∧ Same o h h' ∧ ∃ l : List Pol, SlOf 4 polr l x ∧ l.length ≤ 3 := by
  suffices Wp (R 45 [.ptr o 0 0] h) (fun p => CD p.2 o ∧ Same o h p.2 ∧ ∃ l : List Pol, SlOf 4 polr l p.1 ∧ l.length ≤ 3) by
    obtain ⟨⟨x, h'⟩, h1, h2⟩ := this
    exact ⟨x, h', h1, h2⟩
  rw [e45]
  simp only [F45, bs]
  obtain ⟨v, h1, e1, c1, s1, b0, b1⟩ := next_b hc 2 (by omega) (by omega)
  have S1 := (St.refl hc).next c1 s1
  refine Wp.step e1 ?_
  simp only [dBin_eql, bs]
  refine Wp.join (P := fun r => ∃ x g, ∃ l : List Pol, r = (.nrm, [x], g) ∧ St h o g ∧ Own g h.length 53 4 (l.map polr) x ∧ l.length ≤ 1) ?_ ?_ ?_
  · intro _
    obtain ⟨v, h2, e2, c2, s2, b0, b1⟩ := next_b S1.cd 4 (by omega) (by omega)
    have S2 := S1.next c2 s2
    refine Wp.step e2 ?_
    simp only [dBin_mul, bs, bd53_0_1_2_3, bs38_1]
    refine wap38 S2.le (Own.nils h2 h.length 53 4) (rowsOf_sl _ _ _ _) (by simp [-Option.bind_some]) fun x' g' ow len bel _ _ => ?_
    simp only [bs]
    exact .some ⟨x', g', [⟨_, _, _, _⟩], rfl, S2.app len bel, ow, by simp [-Option.bind_some]⟩
  · intro _
    exact .some ⟨_, _, [], rfl, S1, Own.nils _ _ _ _, by simp [-Option.bind_some]⟩
  rintro _ ⟨x, g, l, rfl, S, ow, hl⟩
  simp only [toEnd_nrm, nth_zero]
  obtain ⟨v, h1, e1, c1, s1, b0, b1⟩ := next_b S.cd 2 (by omega) (by omega)
  have S1 := S.next c1 s1
  replace ow := ow.same s1 hc.lt
  refine Wp.step e1 ?_
  simp only [dBin_eql, bs]
  refine Wp.join (P := fun r => ∃ x g, ∃ l : List Pol, r = (.nrm, [x], g) ∧ St h o g ∧ Own g h.length 53 4 (l.map polr) x ∧ l.length ≤ 2) ?_ ?_ ?_
  · intro _
    obtain ⟨v, h2, e2, c2, s2, b0, b1⟩ := next_b S1.cd 50 (by omega) (by omega)
    have S2 := S1.next c2 s2
    replace ow := ow.same s2 hc.lt
    refine Wp.step e2 ?_
    simp only [dBin_add, bs, bd53_0_1_2_3, bs38_1]
    refine wap38 S2.le ow (rowsOf_sl _ _ _ _) (by simp [-Option.bind_some]; omega) fun x' g' ow len bel _ _ => ?_
    simp only [bs]
    exact .some ⟨x', g', l ++ [⟨_, _, _, _⟩], rfl, S2.app len bel, by rw [List.map_append]; exact ow, by simp [-Option.bind_some]; omega⟩
  · intro _
    exact .some ⟨_, _, l, rfl, S1, ow, by omega⟩
  clear S hl e1 S1 ow
  rintro _ ⟨x, g, l, rfl, S, ow, hl⟩
  simp only [toEnd_nrm, nth_zero]
  obtain ⟨v, h1, e1, c1, s1, b0, b1⟩ := next_b S.cd 3 (by omega) (by omega)
  have S1 := S.next c1 s1
  replace ow := ow.same s1 hc.lt
  refine Wp.step e1 ?_
  simp only [dBin_gtr, bs]
  refine Wp.join (P := fun r => ∃ x g, ∃ l : List Pol, r = (.nrm, [x], g) ∧ St h o g ∧ Own g h.length 53 4 (l.map polr) x ∧ l.length ≤ 3) ?_ ?_ ?_
  · intro _
    simp only [lt82_2_ok, bs]
    obtain ⟨v, h2, e2, c2, s2, b0, b1⟩ := next_b S1.cd 5 (by omega) (by omega)
    have S2 := S1.next c2 s2
    replace ow := ow.same s2 hc.lt
    obtain ⟨s, hs, hg⟩ := pick_of lt82_2 v b0 b1
    refine Wp.step e2 ?_
    simp only [ix82, b0, if_true, List.getElem?_map, hg, Option.map_some, bs, ld3, bd53_0_3, bs38_1]
    refine wap38 S2.le ow (rowsOf_sl _ _ _ _) (by simp [-Option.bind_some]; omega) fun x' g' ow len bel _ _ => ?_
    simp only [bs]
    exact .some ⟨x', g', l ++ [⟨_, _, _, _⟩], rfl, S2.app len bel, by rw [List.map_append]; exact ow, by simp [-Option.bind_some]; omega⟩
  · intro _
    exact .some ⟨_, _, l, rfl, S1, ow, by omega⟩
  clear S hl e1 S1 ow
  rintro _ ⟨x, g, l, rfl, S, ow, hl⟩
  simp only [toEnd_nrm, nth_zero, bs, mkRes_one]
  have hsl := own_sl (n := 3) ow (Nat.le_refl _) (fun a _ => polr_frz _ g _ a)
  obtain ⟨h', hs, hcd, hsm⟩ := S.scope rfl (slof_ok hsl fun a _ => polr_ok _ a)
  exact ⟨_, hs, hcd, hsm, l, hsl, hl⟩
end Go.Proofs.Ytiamjjeflmcgoaa
