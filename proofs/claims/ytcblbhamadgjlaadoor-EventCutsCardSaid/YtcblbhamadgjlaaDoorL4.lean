/- Laws, on plain data, about functions that the statement reaches. -/
import Derived.Test.YtcblbhamadgjlaaDoorL3
set_option linter.unusedSimpArgs false
set_option linter.unusedVariables false
set_option linter.unnecessarySimpa false
set_option maxRecDepth 100000
namespace Go.Proofs.YtcblbhamadgjlaaDoor
open Go.Eng Go.Pi
/-- Cut at a mark, and then at a later one. -/
theorem AftOf.twice {i a b d : It} {p q : Int} {is was : Bool} (hi : ItK i) (hpq : p ≤ q) (ha : AftOf i p true a) (hb : AftOf a q is b) (hd : AftOf i q was d) : is = was ∧ (is = true → sameI b d = true) := by
  rcases ha with ⟨h1, _, rfl⟩ | ⟨_, _, hh, _⟩ | ⟨h1, h2, _, _, hf⟩
  · obtain ⟨e1, e2⟩ := hb.same hd
    exact ⟨e1, fun _ => e2⟩
  · cases hh
  obtain ⟨hch, hc0, hc9, hc1⟩ := hi.ch
  obtain ⟨x, hx, hx2⟩ := hf.a2
  rcases mch_filter p _ _ _ hch with hfl | ⟨y, r, hfl, hm, hpy, hay, hmin⟩
  · rw [hfl] at hx; cases hx
  rw [hfl] at hx
  injection hx with hx
  subst hx
  have hyl : y ∈ i.e.ls := by
    have : y ∈ i.e.ls.filter (fun l => decide (p ≤ l.off)) := by rw [hfl]; simp [-Option.bind_some]
    exact (List.mem_filter.1 this).1
  have hnq : ¬ q ≤ i.e.a2 := by omega
  have hfe : ∀ m : Int, p ≤ m → (i.e.ls.filter fun l => decide (m ≤ l.off)) = a.e.ls.filter fun l => decide (m ≤ l.off) := fun m hm => by
    rw [hf.ls, List.filter_filter]
    congr 1; funext l
    by_cases hc : m ≤ l.off
    · have : p ≤ l.off := by omega
      simp [-Option.bind_some, hc, this]
    · simp [-Option.bind_some, hc]
  have hyb : y.off < i.e.a3 := by
    have hh := mch_le _ _ _ hm
    simp only [List.length_cons] at hh
    omega
  rcases hb with ⟨k1, rfl, rfl⟩ | ⟨k1, k2, rfl, rfl⟩ | ⟨k1, k2, ⟨l, hl, hql⟩, rfl, hg⟩
  · rcases hd with ⟨hh, _⟩ | ⟨_, hh, _⟩ | ⟨_, _, _, rfl, hg⟩
    · exact absurd hh hnq
    · rcases hh with hh | hh
      · omega
      · have := hh y hyl; omega
    · refine ⟨rfl, fun _ => ?_⟩
      have hse : (i.e.ls.filter fun l => decide (q ≤ l.off)) = i.e.ls.filter fun l => decide (p ≤ l.off) := by
        apply List.filter_congr
        intro l hl
        by_cases hc : q ≤ l.off
        · have : p ≤ l.off := by omega
          simp [-Option.bind_some, hc, this]
        · by_cases hc2 : p ≤ l.off
          · have := hmin l hl hc2; omega
          · simp [-Option.bind_some, hc, hc2]
      obtain ⟨z, hz, hz2⟩ := hg.a2
      rw [hse, hfl] at hz
      injection hz with hz
      subst hz
      simp [-Option.bind_some, sameI, sameE, hf.r, hg.r, hf.a0, hg.a0, hf.a1, hg.a1, hx2, hz2, hf.a3, hg.a3, hf.a5, hg.a5, hf.a6, hg.a6, hf.s7, hg.s7, hf.s8, hg.s8, hf.fs, hg.fs, hf.ls, hg.ls, hse]
  · rcases hd with ⟨hh, _⟩ | ⟨_, _, rfl, rfl⟩ | ⟨_, k3, ⟨l, hl, hql⟩, _⟩
    · exact absurd hh hnq
    · exact ⟨rfl, fun hh => by cases hh⟩
    · rcases k2 with k2 | k2
      · rw [hf.a3] at k2; omega
      · have hla : l ∈ a.e.ls := by rw [hf.ls]; exact List.mem_filter.2 ⟨hl, by simp [-Option.bind_some]; omega⟩
        have := k2 l hla; omega
  · rcases hd with ⟨hh, _⟩ | ⟨_, hh, _⟩ | ⟨_, _, _, rfl, hg'⟩
    · exact absurd hh hnq
    · rw [hf.a3] at k2
      have hla : l ∈ i.e.ls := by rw [hf.ls] at hl; exact (List.mem_filter.1 hl).1
      rcases hh with hh | hh
      · omega
      · have := hh l hla; omega
    · refine ⟨rfl, fun _ => ?_⟩
      have hse := hfe q hpq
      obtain ⟨z, hz, hz2⟩ := hg.a2
      obtain ⟨z', hz', hz2'⟩ := hg'.a2
      rw [hse, hz] at hz'
      injection hz' with hz'
      subst hz'
      simp [-Option.bind_some, sameI, sameE, hf.r, hg.r, hg'.r, hf.a0, hg.a0, hg'.a0, hf.a1, hg.a1, hg'.a1, hz2, hz2', hf.a3, hg.a3, hg'.a3, hf.a5, hg.a5, hg'.a5, hf.a6, hg.a6, hg'.a6, hf.s7, hg.s7, hg'.s7, hf.s8, hg.s8, hg'.s8, hf.fs, hg.fs, hg'.fs, hg.ls, hg'.ls, hse]
theorem AftOf.later {i a d : It} {p q : Int} {was : Bool} (hpq : p ≤ q) (ha : AftOf i p false a) (hd : AftOf i q was d) : was = false := by
  rcases ha with ⟨_, hh, _⟩ | ⟨h1, h2, _, _⟩ | ⟨_, _, _, hh, _⟩
  · cases hh
  · rcases hd with ⟨hh, _⟩ | ⟨_, _, rfl, _⟩ | ⟨_, k3, ⟨l, hl, hql⟩, _⟩
    · omega
    · rfl
    · rcases h2 with h2 | h2
      · omega
      · have := h2 l hl; omega
  · cases hh
theorem m1038 {h : Hp} {o : Nat} (hc : CM h o) : ∃ i h', R fn1038 [.ptr o 0 0] h = some (.agg (itr i), h') ∧ CM h' o ∧ Same o h h' ∧ ItK i := by
  suffices Wp (R fn1038 [.ptr o 0 0] h) (fun p => ∃ i, p.1 = .agg (itr i) ∧ CM p.2 o ∧ Same o h p.2 ∧ ItK i) by
    obtain ⟨⟨x, h'⟩, h1, i, rfl, h2⟩ := this
    exact ⟨i, h', h1, h2⟩
  have ho := hc.lt
  rw [e1038]
  simp only [F1038, bs, Option.bind_assoc]
  generalize hg0 : dNew h ty74 11 [[.str [], .int .i64 0, .int .i64 0, .int .i64 0, .int .i64 0, .nils, .int .i64 0, .int .i64 0, .str [], .str [], .nils]] = g0
  have p0 : g0[h.length]? = some (Ob.row ty74 11 [[.str [], .int .i64 0, .int .i64 0, .int .i64 0, .int .i64 0, .nils, .int .i64 0, .int .i64 0, .str [], .str [], .nils]]) := by rw [← hg0]; exact new_get _ _ _ _
  have S0 : Sm h o g0 := (Sm.refl hc).app (by rw [← hg0, new_len]; omega) fun q hq => by rw [← hg0]; exact new_old _ _ _ _ hq
  have hl0 : g0.length = h.length + 1 := by rw [← hg0]; exact new_len _ _ _ _
  clear hg0
  obtain ⟨e, g1, e1, c1, s1, he⟩ := m12 S0.cd
  refine Wp.step e1 ?_; clear e1
  have hbx : boxN 10 (.agg (evr e)) = some (.fptr (evr e)) := boxN_agg 10 _ rfl
  simp only [bs, hbx]
  obtain ⟨v, g2, e2, c2, s2, v0, v1⟩ := m39 c1 4 (by omega) (by omega)
  refine Wp.step e2 ?_; clear e2
  have S2 := (S0.next c1 s1).next c2 s2
  have hl2 : g2.length = h.length + 1 := by have := s1.1; have := s2.1; omega
  replace p0 := (s2.2 h.length (by omega)).trans ((s1.2 h.length (by omega)).trans p0)
  clear S0 s1 s2 c1 hl0
  have hb2 : dBuild tab ty74 [1] [.agg (evr e)] = some (.agg (itr ⟨[], e⟩)) := id rfl
  have fin : ∀ (g : Hp) (j : It), Sm h o g → g[h.length]? = some (Ob.row ty74 11 [itr j]) → ItK j → Wp ((dLoad tab g ty74 (.ptr h.length 0 0)).bind fun d => scope h g (mkRes [d])) (fun p : D × Hp => ∃ i, p.1 = .agg (itr i) ∧ CM p.2 o ∧ Same o h p.2 ∧ ItK i) := fun g j S q hj => by
    simp only [ldIt11 q, bs, mkRes_one]
    obtain ⟨h', hsc, hcd, hsm2⟩ := S.scope (d := .agg (itr j)) (d' := .agg (itr j)) (by
      rw [frz_agg, map_id_of fun d hd => itr_frz h.length g 2 j d hd]) (itr_ok _ _)
    rw [hsc]
    exact .some ⟨j, rfl, hcd, hsm2, hj⟩
  simp only [dBin_lss, bs]
  refine Wp.dif ?_ ?_
  · intro _
    simp only [evL, bs, hb2]
    refine wst74 p0 (by rfl) (by rfl) (by simp [-Option.bind_some]) (by rfl) fun g3 p3 sg => ?_
    replace p3 : g3[h.length]? = some (Ob.row ty74 11 [itr ⟨[], e⟩]) := p3
    exact fin g3 _ (S2.app (Nat.le_of_eq sg.1.symm) fun q hq => sg.2 q (by omega)) p3 (.inl ⟨rfl, he.k⟩)
  · intro _
    have q0 : dFieldAddr tab ty31 0 (.fptr (evr e)) = some (.fptr (evr e)) := id rfl
    have q1 : dFieldAddr tab ty31 1 (.fptr (evr e)) = some (.fptr [.int .i64 e.a1, .int .i64 e.a2, .int .i64 e.a3, e.ld, .int .i64 e.a5, .int .i64 e.a6, .str e.s7, .str e.s8, e.fd]) := id rfl
    have q2 : dFieldAddr tab ty31 2 (.fptr (evr e)) = some (.fptr [.int .i64 e.a2, .int .i64 e.a3, e.ld, .int .i64 e.a5, .int .i64 e.a6, .str e.s7, .str e.s8, e.fd]) := id rfl
    have q3 : dFieldAddr tab ty31 3 (.fptr (evr e)) = some (.fptr [.int .i64 e.a3, e.ld, .int .i64 e.a5, .int .i64 e.a6, .str e.s7, .str e.s8, e.fd]) := id rfl
    have q4 : dFieldAddr tab ty31 4 (.fptr (evr e)) = some (.fptr [e.ld, .int .i64 e.a5, .int .i64 e.a6, .str e.s7, .str e.s8, e.fd]) := id rfl
    have l0 : ∀ g, dLoad tab g ty3 (.fptr (evr e)) = some (.int .i64 e.a0) := fun g => id rfl
    simp only [q0, q1, q2, q3, q4, l0, ld3, bs, bd31_0_1_2_3]
    generalize hg3 : dNew g2 ty31 10 [[.int .i64 0, .int .i64 0, .int .i64 0, .int .i64 0, .nils, .int .i64 0, .int .i64 0, .str [], .str [], .nils]] = g3
    have p3 : g3[g2.length]? = some (Ob.row ty31 10 [[.int .i64 0, .int .i64 0, .int .i64 0, .int .i64 0, .nils, .int .i64 0, .int .i64 0, .str [], .str [], .nils]]) := by rw [← hg3]; exact new_get _ _ _ _
    have hb3 : ∀ q, q < h.length + 1 → g3[q]? = g2[q]? := fun q hq => by rw [← hg3]; exact new_old _ _ _ _ (by omega)
    have hl3 : g3.length = h.length + 2 := by rw [← hg3, new_len]; omega
    clear hg3
    rw [hl2] at p3 ⊢
    have S3 := S2.app (by omega) fun q hq => hb3 q (by omega)
    replace p0 := (hb3 h.length (by omega)).trans p0
    refine wst31 p3 (by rfl) (by rfl) (by simp [-Option.bind_some]) (by rfl) fun g4 p4 sg => ?_
    replace p4 : g4[h.length + 1]? = some (Ob.row ty31 10 [[.int .i64 e.a0, .int .i64 e.a1, .int .i64 e.a2, .int .i64 e.a3, .nils, .int .i64 0, .int .i64 0, .str [], .str [], .nils]]) := p4
    have S4 := S3.app (Nat.le_of_eq sg.1.symm) fun q hq => sg.2 q (by omega)
    replace p0 := (sg.2 h.length (by omega)).trans p0
    have hl4 : g4.length = h.length + 2 := sg.1.trans hl3
    clear p3 hb3 S3 S2 sg hl3 c2 hl2
    simp only [bs, ld28, lens28 e.hld]
    refine Wp.loop (fun k ds g => ∃ a b x, ∃ n : Nat, ds = [a, .int .i64 n, b] ∧ k + n = e.ls.length ∧ Sm h o g ∧ h.length + 2 ≤ g.length ∧ g[h.length]? = some (Ob.row ty74 11 [[.str [], .int .i64 0, .int .i64 0, .int .i64 0, .int .i64 0, .nils, .int .i64 0, .int .i64 0, .str [], .str [], .nils]])
        ∧ g[h.length + 1]? = some (Ob.row ty31 10 [[.int .i64 e.a0, .int .i64 e.a1, .int .i64 e.a2, .int .i64 e.a3, x, .int .i64 0, .int .i64 0, .str [], .str [], .nils]]) ∧ Own g (h.length + 2) ty78 3 (((e.ls.take n).map blank).map linr) x)
      (fun r => r.1 = .ext 0 ∧ ∃ a b c x, r.2.1 = [a, b, c] ∧ Sm h o r.2.2 ∧ h.length + 2 ≤ r.2.2.length ∧ r.2.2[h.length]? = some (Ob.row ty74 11 [[.str [], .int .i64 0, .int .i64 0, .int .i64 0, .int .i64 0, .nils, .int .i64 0, .int .i64 0, .str [], .str [], .nils]])
        ∧ r.2.2[h.length + 1]? = some (Ob.row ty31 10 [[.int .i64 e.a0, .int .i64 e.a1, .int .i64 e.a2, .int .i64 e.a3, x, .int .i64 0, .int .i64 0, .str [], .str [], .nils]]) ∧ Own r.2.2 (h.length + 2) ty78 3 ((e.ls.map blank).map linr) x) e.ls.length
      ⟨_, _, .nils, 0, rfl, rfl, S4, by omega, p0, p4, Own.nils _ _ _ _⟩ ?_ ?_
    · clear p0 p4 S4 hl4
      rintro k ds g ⟨a, b, x, n, rfl, hk, S, hgl, p0, p1, ow⟩
      have hel := he.l3
      simp only [F1038_L0, nth_zero, nth_succ, bs, Option.bind_assoc, dBin_lss]
      refine Wp.dif ?_ ?_
      · intro h0
        have h0 : n < e.ls.length := by have : (n : Int) < e.ls.length := by simpa [-Option.bind_some] using h0
                                        omega
        have hg : e.ls[n]? = some e.ls[n] := List.getElem?_eq_getElem h0
        have hw : IntKind.wrap .i64 ((n : Int) + 1) = ((n + 1 : Nat) : Int) := by rw [wrap_i64 (by omega) (by omega)]; omega
        have hts : (e.ls.take (n + 1)).map blank = (e.ls.take n).map blank ++ [blank e.ls[n]] := by
          rw [List.take_add_one, hg, List.map_append]; rfl
        generalize e.ls[n] = l at hg hts
        have r1 : g.row (h.length + 1) 0 = some [.int .i64 e.a0, .int .i64 e.a1, .int .i64 e.a2, .int .i64 e.a3, x, .int .i64 0, .int .i64 0, .str [], .str [], .nils] := row_of p1
        simp only [fap31_4, ldp28, r1, Nat.zero_add, List.drop_succ_cons, List.drop_zero, List.head?_cons, q4, ld28, bs, ixs28 e.hld, Int.natCast_nonneg, if_true, Int.toNat_natCast, hg, Option.map_some]
        simp only [linr, fa78_0, fa78_1, ld3, bs, bd78_0_1, bs28_1]
        refine wap28 hgl ow (rowsOf_sl _ _ _ _) (by simp [-Option.bind_some]; omega) fun x' g' ow' len bel _ _ => ?_
        have oc := one_cells (own_one ow')
        simp only [bs]
        refine wst28 ((bel (h.length + 1) (by omega)).trans p1) (by rfl) (by rw [oc.1]; rfl) (by simp [-Option.bind_some]) oc.2 fun g2 p2 t2 => ?_
        rw [oc.1] at p2
        replace p2 : g2[h.length + 1]? = some (Ob.row ty31 10 [[.int .i64 e.a0, .int .i64 e.a1, .int .i64 e.a2, .int .i64 e.a3, x', .int .i64 0, .int .i64 0, .str [], .str [], .nils]]) := p2
        simp only [bs, dBin_add, hw]
        refine .some (.inl ⟨rfl, k - 1, by omega, _, _, x', n + 1, rfl, by omega, (S.app len fun q hq => bel q (by omega)).app (Nat.le_of_eq t2.1.symm) fun q hq => t2.2 q (by omega), by show h.length + 2 ≤ g2.length; have := t2.1; omega, (t2.2 h.length (by omega)).trans ((bel h.length (by omega)).trans p0), p2, ?_⟩)
        rw [hts, List.map_append]
        exact ow'.keep fun q hq _ => t2.2 q (by omega)
      · intro h0
        have h0 : e.ls.length ≤ n := by have : ¬ (n : Int) < e.ls.length := by simpa [-Option.bind_some] using h0
                                        omega
        rw [List.take_of_length_le h0] at ow
        exact .some (.inr ⟨by simp [-Option.bind_some], rfl, _, _, _, x, rfl, S, hgl, p0, p1, ow⟩)
    · clear p0 p4 S4 hl4 g4
      rintro ⟨ex, ds, g⟩ ⟨rfl, a, b, c, x, rfl, S, hgl, p0, p1, ow⟩
      simp only at S hgl p0 p1 ow
      simp only [unblk_self, toEnd_nrm, bs, lt98_35_ok]
      refine pick_wp S.cd lt98_35 8 (by decide) (by decide) (by decide) fun u g2 c2 s2 hu _ => ?_
      have S2 := S.next c2 s2
      have p12 := (s2.2 (h.length + 1) (by omega)).trans p1
      replace p0 := (s2.2 h.length (by omega)).trans p0
      have ow2 := ow.same s2 (by omega)
      simp only [bs, ldob p12 rfl, ldob p1 rfl, bd74_0_1, chk_true]
      refine wst74 p0 (by rfl) (by rfl) (by simp [-Option.bind_some]) (by rfl) fun g3 p3 sg => ?_
      replace p3 : g3[h.length]? = some (Ob.row ty74 11 [[.str u, .int .i64 e.a0, .int .i64 e.a1, .int .i64 e.a2, .int .i64 e.a3, x, .int .i64 0, .int .i64 0, .str [], .str [], .nils]]) := p3
      have S3 := S2.app (Nat.le_of_eq sg.1.symm) fun q hq => sg.2 q (by omega)
      have ow3 := ow2.keep (h' := g3) fun q hq _ => sg.2 q (by omega)
      have hsl := own_sl (n0 := h.length) (n := 2) ow3 (by omega) (fun a _ => linr_frz _ g3 _ a)
      have hel := he.l3
      simp only [ldob11 p3 rfl, bs, mkRes_one]
      generalize hj : (⟨u, ⟨e.a0, e.a1, e.a2, e.a3, e.ls.map blank, frz h.length g3 3 x, 0, 0, [], [], [], .nils, SlOf.nils _ _, by simp [-Option.bind_some], hsl, by simp [-Option.bind_some]; omega⟩⟩ : It) = j
      have hK : SkK j := by
        subst hj
        exact ⟨hu, he.h0, he.h2, he.f0, he.f2, he.a0, he.k.b9, mch_blank _ _ _ he.ch, by simpa [-Option.bind_some] using he.l1, by simpa [-Option.bind_some] using hel, fun l hl => by
          simp [-Option.bind_some] at hl
          obtain ⟨l0, _, rfl⟩ := hl
          rfl, rfl, rfl, rfl, rfl, rfl⟩
      obtain ⟨h', hsc, hcd, hsm2⟩ := S3.scope (d := .agg [.str u, .int .i64 e.a0, .int .i64 e.a1, .int .i64 e.a2, .int .i64 e.a3, x, .int .i64 0, .int .i64 0, .str [], .str [], .nils]) (d' := .agg (itr j)) (by subst hj; simp [-Option.bind_some, itr, evr]) (itr_ok _ _)
      rw [hsc]
      exact .some ⟨j, rfl, hcd, hsm2, .inr hK⟩
theorem law1035 (zs : List Int) (d : D) (mark later : Int) (h : Hp) (hd : Given .u8 zs d) (hz : ∀ z ∈ zs, 0 ≤ z ∧ z < 256) (hzl : zs.length ≤ 9223372036854775807) : ∃ h', R fn1035 [d, .int .i64 mark, .int .i64 later] h = some (.bool true, h') := by
  suffices Wp (R fn1035 [d, .int .i64 mark, .int .i64 later] h) (fun p => p.1 = .bool true) by
    obtain ⟨⟨x, h'⟩, h1, rfl⟩ := this
    exact ⟨h', h1⟩
  rw [e1035]
  simp only [F1035, bs, Option.bind_assoc, s1036, dUn_not, Bool.not_true, dIf_bool, Bool.false_eq_true, if_false]
  obtain ⟨h1, e1, c1, _, _⟩ := m10 zs d 100 h hd (by omega) (by omega) hz hzl
  refine Wp.step e1 ?_; clear e1
  try simp only [bs]
  obtain ⟨i, g, e2, c2, _, hi⟩ := m1038 c1
  refine Wp.step e2 ?_; clear e2 c1 c2
  have hbx : ∀ j : It, boxN 11 (.agg (itr j)) = some (.fptr (itr j)) := fun j => boxN_agg 11 _ rfl
  have q2 : ∀ e : Ev, dFieldAddr tab ty31 2 (.fptr (evr e)) = some (.fptr [.int .i64 e.a2, .int .i64 e.a3, e.ld, .int .i64 e.a5, .int .i64 e.a6, .str e.s7, .str e.s8, e.fd]) := fun e => id rfl
  have q3 : ∀ e : Ev, dFieldAddr tab ty31 3 (.fptr (evr e)) = some (.fptr [.int .i64 e.a3, e.ld, .int .i64 e.a5, .int .i64 e.a6, .str e.s7, .str e.s8, e.fd]) := fun e => id rfl
  obtain ⟨hch, hc0, hc9, hc1⟩ := hi.ch
  have hl3 := hi.l3
  have hle := mch_le _ _ _ hch
  have w1 : IntKind.wrap .i64 (i.e.a3 - i.e.a2) = i.e.a3 - i.e.a2 := wrap_i64 (by omega) (by omega)
  have w2 : IntKind.wrap .i64 (i.e.a2 - 2) = i.e.a2 - 2 := wrap_i64 (by omega) (by omega)
  have w3 : IntKind.wrap .i64 (i.e.a3 - i.e.a2 + 5) = i.e.a3 - i.e.a2 + 5 := wrap_i64 (by omega) (by omega)
  have w4 : IntKind.wrap .i64 (i.e.a3 - i.e.a2 + 1) = i.e.a3 - i.e.a2 + 1 := wrap_i64 (by omega) (by omega)
  obtain ⟨v, hv, v0, v1⟩ := s1039 mark (i.e.a3 - i.e.a2 + 5) g (by omega) (by omega)
  have w5 : IntKind.wrap .i64 (i.e.a2 - 2 + v) = i.e.a2 - 2 + v := wrap_i64 (by omega) (by omega)
  simp only [bs, hbx, itF1, q2, q3, ld3, dBin_sub, dBin_add, w1, w2, w3, hv, w5, bs82_2, chk_true]
  have hsl : SlOf 1 inr [mark, i.e.a2 - 2 + v] (.sl 1 true [[.int .i64 mark], [.int .i64 (i.e.a2 - 2 + v)]]) := .inr ⟨true, rfl⟩
  have hln : dLenT tab ty82 (.sl 1 true [[.int .i64 mark], [.int .i64 (i.e.a2 - 2 + v)]]) = some (.int .i64 2) := lens82 hsl
  have hix : ∀ (k : Nat) (z : Int), [mark, i.e.a2 - 2 + v][k]? = some z → dIndexAddr tab ty82 (.sl 1 true [[.int .i64 mark], [.int .i64 (i.e.a2 - 2 + v)]]) (.int .i64 k) = some (.fptr [.int .i64 z]) := fun k z hk => by
    rw [ixs82 hsl, if_pos (by omega), Int.toNat_natCast, hk]; rfl
  generalize (.sl 1 true [[.int .i64 mark], [.int .i64 (i.e.a2 - 2 + v)]] : D) = sl at hln hix ⊢
  have hlen2 : ([mark, i.e.a2 - 2 + v] : List Int).length = 2 := rfl
  generalize [mark, i.e.a2 - 2 + v] = ml at hix hlen2
  simp only [hln, bs]
  refine Wp.loop (fun k ds g' => g' = g ∧ ∃ a b c e f u w x, ∃ n : Nat, ds = [a, b, c, e, f, u, .int .i64 n, w, x] ∧ k + n = 2)
    (fun r => r.1 = .ext 0 ∧ r.2.2 = g) 2 ⟨rfl, _, _, _, _, _, _, _, _, 0, rfl, rfl⟩ ?_ ?_
  · rintro k ds g' ⟨rfl, a, b, c, e, f, u, w, x, n, rfl, hk⟩
    simp only [F1035_L0, nth_zero, nth_succ, bs, Option.bind_assoc, dBin_lss]
    refine Wp.dif ?_ ?_
    · intro h0
      have h0 : n < 2 := by have : (n : Int) < 2 := by simpa [-Option.bind_some] using h0
                            omega
      obtain ⟨z, hz⟩ : ∃ z, ml[n]? = some z := ⟨ml[n]'(by omega), List.getElem?_eq_getElem (by omega)⟩
      have hw : IntKind.wrap .i64 ((n : Int) + 1) = ((n + 1 : Nat) : Int) := by rw [wrap_i64 (by omega) (by omega)]; omega
      obtain ⟨j, ok, e1, a1⟩ := s1040 i z g' (by omega)
      obtain ⟨j', ok', e2, a2⟩ := s1041 i z g' (by omega)
      obtain ⟨rfl, hsm⟩ := a1.same a2
      have h82 := s82 j j' g'
      rw [hsm] at h82
      simp only [hix n z hz, ld3, bs, ldIt, e1, e2, dExtract_tup, List.getElem?_cons_zero, List.getElem?_cons_succ, hbx, bneq4, beq_self_eq_true, Bool.not_true, gd_bool, gdW_bool, if_true, h82, dUn_not, dPick_bool, Bool.false_eq_true, if_false, dIf_bool, dBin_add, hw]
      exact .some (.inl ⟨rfl, k - 1, by omega, rfl, _, _, _, _, _, _, _, _, n + 1, rfl, by omega⟩)
    · intro h0
      exact .some (.inr ⟨by simp [-Option.bind_some], rfl, rfl⟩)
  · rintro ⟨ex, ds, g'⟩ ⟨rfl, h2⟩
    simp only at h2
    subst h2
    obtain ⟨p, hp, p0, p1⟩ := s1039 mark (i.e.a3 - i.e.a2 + 1) g' (by omega) (by omega)
    obtain ⟨q, hq, q0, q1⟩ := s1039 later (i.e.a3 - i.e.a2 + 1) g' (by omega) (by omega)
    have w6 : IntKind.wrap .i64 (i.e.a2 + p) = i.e.a2 + p := wrap_i64 (by omega) (by omega)
    have w7 : IntKind.wrap .i64 (i.e.a2 + p + q) = i.e.a2 + p + q := wrap_i64 (by omega) (by omega)
    obtain ⟨a, ok, e1, k1⟩ := s1040 i (i.e.a2 + p) g' (by omega)
    obtain ⟨dd, was, e3, k3⟩ := s1040 i (i.e.a2 + p + q) g' (by omega)
    simp only [unblk_self, toEnd_nrm, itF1, q2, ld3, bs, dBin_add, w4, hp, w6, hq, w7, chk_true, ldIt, e1, dExtract_tup, List.getElem?_cons_zero, List.getElem?_cons_succ, hbx, dUn_not]
    cases ok
    · have hw := k1.later (by omega) k3
      subst hw
      simp only [Bool.not_false, dIf_bool, if_true, e3, bs, dExtract_tup, List.getElem?_cons_zero, List.getElem?_cons_succ, hbx, dUn_not, mkRes_one]
      exact .some rfl
    · have hla : a.e.ls.length ≤ 1000000 := by
        rcases k1 with ⟨_, _, rfl⟩ | ⟨_, _, hh, _⟩ | ⟨_, _, _, _, hf⟩
        · omega
        · cases hh
        · have := (FltOf.k hi hf).l3; omega
      have hka : ItK a := by
        rcases k1 with ⟨_, _, rfl⟩ | ⟨_, _, hh, _⟩ | ⟨_, _, _, _, hf⟩
        · exact hi
        · cases hh
        · exact FltOf.k hi hf
      obtain ⟨bb, is, e2, k2⟩ := s1040 a (i.e.a2 + p + q) g' hla
      obtain ⟨hw, hsm⟩ := AftOf.twice hi (show i.e.a2 + p ≤ i.e.a2 + p + q by omega) k1 k2 k3
      subst hw
      have h42 := s1042 a g' (by have := hka.fs; omega)
      rw [hka.good] at h42
      have h82 := s82 bb dd g'
      simp only [Bool.not_true, dIf_bool, Bool.false_eq_true, if_false, e2, e3, bs, dExtract_tup, List.getElem?_cons_zero, List.getElem?_cons_succ, hbx, ldIt, h42, dBin_eql, decide_true, gd_bool, gdW_bool, if_true, beql4, beq_self_eq_true, dPick_bool, dUn_not, mkRes_one]
      cases is
      · simp only [Bool.not_false, gd_bool, gdW_bool, reduceCtorEq, if_false, if_true, bs, dPick_bool, Bool.true_eq_false]
        exact .some rfl
      · rw [hsm rfl] at h82
        simp only [Bool.not_true, gd_bool, gdW_bool, reduceCtorEq, if_false, if_true, bs, dPick_bool, Bool.false_eq_true, ldIt, h82]
        exact .some rfl
end Go.Proofs.YtcblbhamadgjlaaDoor
