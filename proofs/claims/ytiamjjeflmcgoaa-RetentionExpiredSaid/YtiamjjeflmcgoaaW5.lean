import Derived.Test.YtiamjjeflmcgoaaW4
set_option linter.unusedSimpArgs false
set_option linter.unusedVariables false
set_option linter.unnecessarySimpa false
namespace Go.Proofs.Ytiamjjeflmcgoaa
open Go.Eng Go.Pi
theorem d46 {h : Hp} {o : Nat} (hc : CD h o) : ∃ x h', R 46 [.ptr o 0 0] h = some (x, h') ∧ CD h' o ∧ Same o h h' ∧ ∃ l : List Hld, SlOf 5 hldr l x ∧ l.length ≤ 2 := by
  suffices Wp (R 46 [.ptr o 0 0] h) (fun p => CD p.2 o ∧ Same o h p.2 ∧ ∃ l : List Hld, SlOf 5 hldr l p.1 ∧ l.length ≤ 2) by
    obtain ⟨⟨x, h'⟩, h1, h2⟩ := this
    exact ⟨x, h', h1, h2⟩
  rw [e46]
  simp only [F46, bs]
  obtain ⟨v, h1, e1, c1, s1, b0, b1⟩ := next_b hc 3 (by omega) (by omega)
  have S1 := (St.refl hc).next c1 s1
  refine Wp.step e1 ?_
  simp only [dBin_eql, bs]
  refine Wp.join (P := fun r => ∃ x g, ∃ l : List Hld, r = (.nrm, [x], g) ∧ St h o g ∧ Own g h.length 56 5 (l.map hldr) x ∧ l.length ≤ 1) ?_ ?_ ?_
  · intro _
    obtain ⟨v, h2, e2, c2, s2, _⟩ := d33 S1.cd
    have S2 := S1.next c2 s2
    refine Wp.step e2 ?_
    simp only [bs, bd56_0_1_2_3_4, bs39_1]
    refine wap39 S2.le (Own.nils h2 h.length 56 5) (rowsOf_sl _ _ _ _) (by simp [-Option.bind_some]) fun x' g' ow len bel _ _ => ?_
    simp only [bs]
    exact .some ⟨x', g', [⟨_, _, _, _, _⟩], rfl, S2.app len bel, ow, by simp [-Option.bind_some]⟩
  · intro _
    exact .some ⟨_, _, [], rfl, S1, Own.nils _ _ _ _, by simp [-Option.bind_some]⟩
  rintro _ ⟨x, g, l, rfl, S, ow, hl⟩
  simp only [toEnd_nrm, nth_zero]
  obtain ⟨v, h1, e1, c1, s1, b0, b1⟩ := next_b S.cd 3 (by omega) (by omega)
  have S1 := S.next c1 s1
  replace ow := ow.same s1 hc.lt
  refine Wp.step e1 ?_
  simp only [dBin_eql, bs]
  refine Wp.join (P := fun r => ∃ x y g, ∃ l : List Hld, r = (.nrm, [x, y], g) ∧ St h o g ∧ Own g h.length 56 5 (l.map hldr) x ∧ l.length ≤ 2) ?_ ?_ ?_
  · intro _
    obtain ⟨v, h2, e2, c2, s2, b0, b1⟩ := next_b S1.cd 30 (by omega) (by omega)
    have S2 := S1.next c2 s2
    replace ow := ow.same s2 hc.lt
    refine Wp.step e2 ?_
    simp only [dBin_mul, bs]
    obtain ⟨v, h3, e3, c3, s3, b0, b1⟩ := next_b S2.cd 10 (by omega) (by omega)
    have S3 := S2.next c3 s3
    replace ow := ow.same s3 hc.lt
    refine Wp.step e3 ?_
    simp only [dBin_mul, dBin_add, bs, bd56_0_3_4, bs39_1]
    refine wap39 S3.le ow (rowsOf_sl _ _ _ _) (by simp [-Option.bind_some]; omega) fun x' g' ow len bel _ _ => ?_
    simp only [bs]
    exact .some ⟨x', _, g', l ++ [⟨_, _, _, _, _⟩], rfl, S3.app len bel, by rw [List.map_append]; exact ow, by simp [-Option.bind_some]; omega⟩
  · intro _
    exact .some ⟨_, _, _, l, rfl, S1, ow, by omega⟩
  clear S hl e1 S1 ow
  rintro _ ⟨x, y, g, l, rfl, S, ow, hl⟩
  simp only [toEnd_nrm, nth_zero, bs, mkRes_one]
  have hsl := own_sl (n := 3) ow (Nat.le_refl _) (fun a _ => hldr_frz _ g _ a)
  obtain ⟨h', hs, hcd, hsm⟩ := S.scope rfl (slof_ok hsl fun a _ => hldr_ok _ a)
  exact ⟨_, hs, hcd, hsm, l, hsl, hl⟩
theorem d96 {h : Hp} {o : Nat} (hc : CD h o) : ∃ s h', R 96 [.ptr o 0 0] h = some (.str s, h') ∧ CD h' o ∧ Same o h h' ∧ s.length ≤ 34 := by
  suffices Wp (R 96 [.ptr o 0 0] h) (fun p => ∃ s, p.1 = .str s ∧ CD p.2 o ∧ Same o h p.2 ∧ s.length ≤ 34) by
    obtain ⟨⟨x, h'⟩, h1, s, rfl, h2⟩ := this
    exact ⟨s, h', h1, h2⟩
  rw [e96]
  simp only [F96, bs, Option.bind_assoc]
  obtain ⟨s, h1, e1, c1, s1, b1⟩ := d102 hc
  refine Wp.step e1 ?_
  simp only [bs]
  obtain ⟨v, h2, e2, c2, s2, v0, v1⟩ := next_b c1 4 (by omega) (by omega)
  refine Wp.step e2 ?_
  simp only [bs]
  refine Wp.loop (fun k ds g => ∃ s a, ds = [.str s, .int .i64 k, a] ∧ CD g o ∧ Same o h g ∧ k ≤ 3 ∧ s.length + 9 * k ≤ 34) (fun r => r.1 = .ext 0 ∧ ∃ s a b, r.2.1 = [.str s, a, b] ∧ CD r.2.2 o ∧ Same o h r.2.2 ∧ s.length ≤ 34) v.toNat ⟨s, .any, by rw [Int.toNat_of_nonneg v0], c2, s1.trans s2, by omega, by omega⟩ ?_ ?_
  · rintro k ds g ⟨s, a, rfl, cg, sg, hk, hs⟩
    simp only [F96_L0, nth_zero, nth_succ, bs, dBin_gtr]
    refine Wp.dif ?_ ?_
    · intro h0
      have h0 : 0 < (k : Int) := by simpa [-Option.bind_some] using h0
      simp only [lt98_7_ok, bs]
      obtain ⟨v, h2, e2, c2, s2, v0, v1⟩ := next_b cg 5 (by omega) (by omega)
      obtain ⟨u, hu, hg⟩ := pick_of lt98_7 v v0 v1
      have hul := (show ∀ s ∈ lt98_7, s.length ≤ 2 by decide) u hu
      refine Wp.step e2 ?_
      simp only [ix98, v0, if_true, List.getElem?_map, hg, Option.map_some, bs, ld9]
      obtain ⟨w, h3, e3, c3, s3, b3⟩ := d102 c2
      refine Wp.step e3 ?_
      rw [dBin_sadd _ _ _ _ (by omega)]
      simp only [bs]
      rw [dBin_sadd _ _ _ _ (by simp [-Option.bind_some]; omega)]
      have hk1 : IntKind.wrap .i64 ((k : Int) - 1) = ((k - 1 : Nat) : Int) := by
        rw [wrap_i64 (by omega) (by omega)]; omega
      simp only [bs, dBin_sub, chk_true, hk1]
      exact .some (.inl ⟨rfl, k - 1, by omega, s ++ (u ++ w), _, rfl, c3, (sg.trans s2).trans s3, by omega, by simp [-Option.bind_some]; omega⟩)
    · intro _
      exact .some (.inr ⟨by simp [-Option.bind_some], rfl, s, _, _, rfl, cg, sg, by omega⟩)
  · rintro ⟨x, ds, g⟩ ⟨rfl, s, a, b, rfl, cg, sg, hs⟩
    simp only [unblk_self, toEnd_nrm, nth_zero, bs, mkRes_one]
    exact .some ⟨s, rfl, cg, sg, hs⟩
theorem fld_frz (n0 : Nat) (h : Hp) (n : Nat) (p : Str × Str) : ∀ d ∈ fld p, frz n0 h n d = d := by simp [-Option.bind_some, fld]
theorem fld_ok (n : Nat) (p : Str × Str) : ∀ d ∈ fld p, Ok n d := by
  intro d hd
  simp [-Option.bind_some, fld] at hd
  rcases hd with rfl | rfl <;> constructor
/-- Fields in ascending order, each with a short value. -/
def FsOK (l : List (Str × Str)) : Prop := (l.map (·.1)).Sublist lt98_9 ∧ ∀ p ∈ l, p.2.length ≤ 19
theorem d98 {h : Hp} {o : Nat} (hc : CD h o) : ∃ x h', R 98 [.ptr o 0 0] h = some (x, h') ∧ CD h' o ∧ Same o h h' ∧ ∃ l, SlOf 2 fld l x ∧ FsOK l := by
  suffices Wp (R 98 [.ptr o 0 0] h) (fun p => CD p.2 o ∧ Same o h p.2 ∧ ∃ l, SlOf 2 fld l p.1 ∧ FsOK l) by
    obtain ⟨⟨x, h'⟩, h1, h2⟩ := this
    exact ⟨x, h', h1, h2⟩
  rw [e98]
  simp only [F98, bs, Option.bind_assoc, lt98_9_ok]
  refine Wp.loop (fun k ds g => ∃ x a b, ∃ (i : Nat) (l : List (Str × Str)), ds = [x, .int .i64 i, a, b] ∧ St h o g ∧ k + i = 4 ∧ Own g h.length 109 2 (l.map fld) x ∧ (l.map (·.1)).Sublist (lt98_9.take i) ∧ ∀ p ∈ l, p.2.length ≤ 19)
    (fun r => r.1 = .ext 0 ∧ ∃ x a b c l, r.2.1 = [x, a, b, c] ∧ St h o r.2.2 ∧ Own r.2.2 h.length 109 2 (l.map fld) x ∧ FsOK l) 4 ⟨.nils, .any, .any, 0, [], rfl, .refl hc, rfl, Own.nils _ _ _ _, by simp [-Option.bind_some], by simp [-Option.bind_some]⟩ ?_ ?_
  · rintro k ds g ⟨x, a, b, i, l, rfl, S, hk, ow, hsub, hv⟩
    have hw : IntKind.wrap .i64 ((i : Int) + 1) = (i + 1 : Nat) := by
      rw [wrap_i64 (by omega) (by omega)]; omega
    simp only [F98_L0, nth_zero, nth_succ, bs, len98, List.length_map, lt98_9_len, dBin_lss]
    refine Wp.dif ?_ ?_
    · intro h0
      have h0 : i < 4 := by have : (i : Int) < 4 := by simpa [-Option.bind_some] using h0
                            omega
      obtain ⟨v, h1, e1, c1, s1, v0, v1⟩ := next_b S.cd 3 (by omega) (by omega)
      have S1 := S.next c1 s1
      replace ow := ow.same s1 hc.lt
      refine Wp.step e1 ?_
      simp only [dBin_eql, bs]
      refine Wp.join (P := fun r => ∃ x g, ∃ l : List (Str × Str), r = (.nrm, [x], g) ∧ St h o g ∧ Own g h.length 109 2 (l.map fld) x ∧ (l.map (·.1)).Sublist (lt98_9.take (i + 1)) ∧ ∀ p ∈ l, p.2.length ≤ 19) ?_ ?_ ?_
      · intro _
        have hg : lt98_9[i]? = some lt98_9[i] := List.getElem?_eq_getElem h0
        simp only [ix98, Int.natCast_nonneg, if_true, Int.toNat_natCast, List.getElem?_map, hg, Option.map_some, bs, ld9]
        obtain ⟨u, h2, e2, c2, s2, hu⟩ := d33 S1.cd
        have S2 := S1.next c2 s2
        replace ow := ow.same s2 hc.lt
        refine Wp.step e2 ?_
        simp only [bs, bd109_0_1, bs29_1]
        have hll : l.length ≤ 4 := by
          have := hsub.length_le
          simp [-Option.bind_some] at this
          omega
        refine wap29 S2.le ow (rowsOf_sl _ _ _ _) (by simp [-Option.bind_some]; omega) fun x' g' ow len bel _ _ => ?_
        simp only [bs, chk_true]
        refine .some ⟨x', g', l ++ [(lt98_9[i], u)], rfl, S2.app len bel, by rw [List.map_append]; exact ow, ?_, ?_⟩
        · rw [List.take_add_one, hg, List.map_append]
          exact hsub.append (List.Sublist.refl _)
        · intro p hp
          rcases List.mem_append.1 hp with hp | hp
          · exact hv p hp
          · simp [-Option.bind_some] at hp; subst hp; exact hu
      · intro _
        refine .some ⟨_, _, l, rfl, S1, ow, hsub.trans ?_, hv⟩
        rw [List.take_add_one]
        exact List.sublist_append_left _ _
      · rintro _ ⟨x, g, l, rfl, S, ow, hsub, hv⟩
        simp only [unblk_nrm, toEnd_nrm, nth_zero, dBin_add, bs, hw]
        exact .some (.inl ⟨rfl, k - 1, by omega, x, _, _, i + 1, l, rfl, S, by omega, ow, hsub, hv⟩)
    · intro h0
      have h0 : ¬ i < 4 := by have : ¬ (i : Int) < 4 := by simpa [-Option.bind_some] using h0
                              omega
      refine .some (.inr ⟨by simp [-Option.bind_some], rfl, x, _, _, _, l, rfl, S, ow, hsub.trans (List.take_sublist _ _), hv⟩)
  · rintro ⟨x, ds, g⟩ ⟨rfl, x, a, b, c, l, rfl, S, ow, hl⟩
    simp only [unblk_self, toEnd_nrm, nth_zero, bs, mkRes_one]
    have hsl := own_sl (n := 3) ow (Nat.le_refl _) (fun a _ => fld_frz _ g _ a)
    obtain ⟨h', hs, hcd, hsm⟩ := S.scope rfl (slof_ok hsl fun a _ => fld_ok _ a)
    exact ⟨_, hs, hcd, hsm, l, hsl, hl⟩
end Go.Proofs.Ytiamjjeflmcgoaa
