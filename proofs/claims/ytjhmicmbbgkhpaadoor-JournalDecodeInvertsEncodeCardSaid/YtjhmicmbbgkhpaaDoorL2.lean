/- Laws, on plain data, about functions that the statement reaches. -/
import Derived.Test.YtjhmicmbbgkhpaaDoorL1
set_option linter.unusedSimpArgs false
set_option linter.unusedVariables false
set_option linter.unnecessarySimpa false
set_option maxRecDepth 100000
namespace Go.Proofs.YtjhmicmbbgkhpaaDoor
open Go.Eng Go.Pi
theorem d84 {h : Hp} {o : Nat} (hc : CD h o) (host file fr : Int) (hf0 : 0 ≤ fr) (hf1 : fr ≤ 1000000000) : ∃ i h', R fn84 [.ptr o 0 0, .int .i64 host, .int .i64 file, .int .i64 fr] h = some (.agg (itr i), h') ∧ CD h' o ∧ Same o h h' ∧ ItOK host file fr i := by
  suffices Wp (R fn84 [.ptr o 0 0, .int .i64 host, .int .i64 file, .int .i64 fr] h) (fun p => ∃ i, p.1 = .agg (itr i) ∧ CD p.2 o ∧ Same o h p.2 ∧ ItOK host file fr i) by
    obtain ⟨⟨x, h'⟩, h1, i, rfl, h2⟩ := this
    exact ⟨i, h', h1, h2⟩
  have ho := hc.lt
  rw [e84]
  simp only [F84, bs, Option.bind_assoc, bd31_0_1_2]
  generalize hg0 : dNew (dNew h ty74 11 [[.str [], .int .i64 0, .int .i64 0, .int .i64 0, .int .i64 0, .nils, .int .i64 0, .int .i64 0, .str [], .str [], .nils]]) ty31 10 [[.int .i64 0, .int .i64 0, .int .i64 0, .int .i64 0, .nils, .int .i64 0, .int .i64 0, .str [], .str [], .nils]] = g0
  have S0 : St h o g0 := (St.refl hc).app (by simp [-Option.bind_some, ← hg0, dNew]) (fun q hq => by simp only [← hg0, dNew]; rw [List.getElem?_append_left (by simp [-Option.bind_some]; omega), List.getElem?_append_left hq])
  have p8 : g0[h.length]? = some (.row ty74 11 [[.str [], .int .i64 0, .int .i64 0, .int .i64 0, .int .i64 0, .nils, .int .i64 0, .int .i64 0, .str [], .str [], .nils]]) := by
    simp only [← hg0, dNew]; rw [List.getElem?_append_left (by simp [-Option.bind_some]), List.getElem?_append_right (Nat.le_refl _)]; simp [-Option.bind_some]
  have p9 : g0[h.length + 1]? = some (.row ty31 10 [[.int .i64 0, .int .i64 0, .int .i64 0, .int .i64 0, .nils, .int .i64 0, .int .i64 0, .str [], .str [], .nils]]) := by
    simp only [← hg0, dNew]; rw [List.getElem?_append_right (by simp [-Option.bind_some])]; simp [-Option.bind_some]
  have hl9 : (dNew h ty74 11 [[.str [], .int .i64 0, .int .i64 0, .int .i64 0, .int .i64 0, .nils, .int .i64 0, .int .i64 0, .str [], .str [], .nils]]).length = h.length + 1 := by simp [-Option.bind_some, dNew]
  rw [hl9]
  clear hl9 hg0
  have sm : ∀ {a b : Hp}, Same (h.length + 1) a b → Grow h.length o a b := fun s => ⟨Nat.le_of_eq s.1.symm, fun q hq _ => s.2 q (by omega)⟩
  refine wst31 p9 (by rfl) (by rfl) (by simp [-Option.bind_some]) (by rfl) fun g1 q9 sg => ?_
  replace q9 : g1[h.length + 1]? = some (.row ty31 10 [[.int .i64 host, .int .i64 file, .int .i64 fr, .int .i64 0, .nils, .int .i64 0, .int .i64 0, .str [], .str [], .nils]]) := q9
  replace p8 := (sg.2 h.length (by omega)).trans p8
  have S1 : St h o g1 := S0.app (Nat.le_of_eq sg.1.symm) fun q hq => sg.2 q (by omega)
  clear p9 sg S0
  obtain ⟨v, h1, e1, c1, s1, v0, v1⟩ := next_b S1.cd 3 (by omega) (by omega)
  replace q9 := (s1.2 (h.length + 1) (by omega)).trans q9
  replace p8 := (s1.2 h.length (by omega)).trans p8
  have S2 := S1.next c1 s1
  refine Wp.step e1 ?_
  simp only [dBin_add, bs]
  rw [wrap_i64 (n := 1 + v) (by omega) (by omega)]
  refine Wp.loop (fun k ds g => ∃ po : Int, ∃ a b c x, ∃ ls : List Lin, ds = [.int .i64 po, .int .i64 k, a, b, c] ∧ St h o g ∧ g[h.length]? = some (.row ty74 11 [[.str [], .int .i64 0, .int .i64 0, .int .i64 0, .int .i64 0, .nils, .int .i64 0, .int .i64 0, .str [], .str [], .nils]])
      ∧ g[h.length + 1]? = some (.row ty31 10 [[.int .i64 host, .int .i64 file, .int .i64 fr, .int .i64 0, x, .int .i64 0, .int .i64 0, .str [], .str [], .nils]]) ∧ Own g (h.length + 2) ty78 3 (ls.map linr) x ∧ chain fr ls po ∧ ls.length + k = (1 + v).toNat ∧ ∀ l ∈ ls, l.len ≤ l.txt.length + 2)
    (fun r => r.1 = .ext 0 ∧ ∃ po : Int, ∃ a b c d x, ∃ ls : List Lin, r.2.1 = [.int .i64 po, a, b, c, d] ∧ St h o r.2.2 ∧ r.2.2[h.length]? = some (.row ty74 11 [[.str [], .int .i64 0, .int .i64 0, .int .i64 0, .int .i64 0, .nils, .int .i64 0, .int .i64 0, .str [], .str [], .nils]])
      ∧ r.2.2[h.length + 1]? = some (.row ty31 10 [[.int .i64 host, .int .i64 file, .int .i64 fr, .int .i64 0, x, .int .i64 0, .int .i64 0, .str [], .str [], .nils]]) ∧ Own r.2.2 (h.length + 2) ty78 3 (ls.map linr) x ∧ chain fr ls po ∧ 1 ≤ ls.length ∧ ls.length ≤ 3 ∧ ∀ l ∈ ls, l.len ≤ l.txt.length + 2)
    (1 + v).toNat ⟨fr, .any, .any, .any, .nils, [], by rw [Int.toNat_of_nonneg (by omega)], S2, p8, q9, Own.nils _ _ _ _, rfl, by simp [-Option.bind_some], by simp [-Option.bind_some]⟩ ?_ ?_
  · clear e1 S1 S2 q9 p8 c1 s1
    rintro k ds g ⟨po, a, b, c, x, ls, rfl, S, p8, p9, ow, hch, hk, htx⟩
    simp only [F84_L0, nth_zero, nth_succ, bs, dBin_gtr]
    refine Wp.dif ?_ ?_
    · intro h0
      have h0 : 0 < (k : Int) := by simpa [-Option.bind_some] using h0
      obtain ⟨t, g1, e1, c1, s1, ht⟩ := d96 S.cd
      have S1 := S.next c1 s1
      refine Wp.step e1 ?_
      simp only [len9, dBin_add, bs]
      obtain ⟨u, g2, e2, c2, s2, u0, u1⟩ := next_b c1 2 (by omega) (by omega)
      have S2 := S1.next c2 s2
      have s12 := s1.trans s2
      replace p9 := (s12.2 (h.length + 1) (by omega)).trans p9
      replace p8 := (s12.2 h.length (by omega)).trans p8
      replace ow := ow.same s12 (by omega)
      refine Wp.step e2 ?_
      have w1 := wrap_i64 (n := (t.length : Int) + 1) (by omega) (by omega)
      have w2 := wrap_i64 (n := (t.length : Int) + 1 + u) (by omega) (by omega)
      simp only [bs, Option.bind_assoc, dBin_add, w1, w2, fap31_4, ldp28, row_of p9, List.getElem?_cons_zero, bs, Nat.zero_add, List.drop_succ_cons, List.drop_zero, List.head?_cons, bd78_0_1_2, bs28_1]
      have hlt : h.length + 1 < g2.length := (List.getElem?_eq_some_iff.1 p9).1
      have hcl := chain_le _ _ _ hch
      refine wap28 (by omega) ow (rowsOf_sl _ _ _ _) (by simp [-Option.bind_some]; omega) fun x' g3 ow3 len bel keep _ => ?_
      have S3 := S2.app len fun q hq => bel q (by omega)
      replace p9 := (bel (h.length + 1) (by omega)).trans p9
      replace p8 := (bel h.length (by omega)).trans p8
      simp only [bs]
      refine wst28 p9 (by rfl) (by cases x' <;> first | rfl | (have := own_one ow3; simp [-Option.bind_some, D.one] at this)) (by simp [-Option.bind_some]) (by cases x' <;> first | rfl | (have := own_one ow3; simp [-Option.bind_some, D.one] at this)) fun g4 p9' sg => ?_
      have hc1 : cells1 x' = [x'] := by cases x' <;> first | rfl | (have := own_one ow3; simp [-Option.bind_some, D.one] at this)
      rw [hc1] at p9'
      replace p9 : g4[h.length + 1]? = some (.row ty31 10 [[.int .i64 host, .int .i64 file, .int .i64 fr, .int .i64 0, x', .int .i64 0, .int .i64 0, .str [], .str [], .nils]]) := p9'
      replace p8 := (sg.2 h.length (by omega)).trans p8
      have S4 : St h o g4 := S3.app (Nat.le_of_eq sg.1.symm) fun q hq => sg.2 q (by omega)
      have ow4 := ow3.keep (h' := g4) fun q hq _ => sg.2 q (by omega)
      have w3 := wrap_i64 (n := po + ((t.length : Int) + 1 + u)) (by omega) (by omega)
      have hk1 : IntKind.wrap .i64 ((k : Int) - 1) = ((k - 1 : Nat) : Int) := by
        rw [wrap_i64 (by omega) (by omega)]; omega
      simp only [dBin_add, bs, dBin_sub, w3, hk1]
      refine .some (.inl ⟨rfl, k - 1, by omega, _, _, _, _, x', ls ++ [⟨po, (t.length : Int) + 1 + u, t⟩], rfl, S4, p8, p9, by rw [List.map_append]; exact ow4, chain_snoc _ _ _ _ hch rfl (by simp [-Option.bind_some]; omega) (by simp [-Option.bind_some]; omega) (by simp [-Option.bind_some]; omega), by simp [-Option.bind_some]; omega, ?_⟩)
      intro l hl
      rcases List.mem_append.1 hl with hl | hl
      · exact htx l hl
      · simp [-Option.bind_some] at hl; subst hl; simp [-Option.bind_some]; omega
    · intro h0
      have h0 : ¬ 0 < (k : Int) := by simpa [-Option.bind_some] using h0
      exact .some (.inr ⟨by simp [-Option.bind_some], rfl, _, _, _, _, _, x, ls, rfl, S, p8, p9, ow, hch, by omega, by omega, htx⟩)
  · clear e1 S1 S2 q9 p8 c1 s1
    rintro ⟨ex, ds, g⟩ ⟨rfl, po, a, b, c, d, x, ls, rfl, S, p8, p9, ow, hch, hl1, hl3, htx⟩
    simp only [unblk_self, toEnd_nrm, nth_zero, bs, fap31_3]
    refine wst3 p9 (by rfl) (by rfl) (by simp [-Option.bind_some]) (by rfl) fun g1 p9' sg => ?_
    replace p9 : g1[h.length + 1]? = some (.row ty31 10 [[.int .i64 host, .int .i64 file, .int .i64 fr, .int .i64 po, x, .int .i64 0, .int .i64 0, .str [], .str [], .nils]]) := p9'
    replace p8 := (sg.2 h.length (by omega)).trans p8
    have S1 : St h o g1 := S.app (Nat.le_of_eq sg.1.symm) fun q hq => sg.2 q (by omega)
    have ow1 := ow.keep (h' := g1) fun q hq _ => sg.2 q (by omega)
    clear S sg p9' ow
    obtain ⟨v, g2, e2, c2, s2, v0, v1⟩ := next_b S1.cd 5 (by omega) (by omega)
    replace p9 := (s2.2 (h.length + 1) (by omega)).trans p9
    replace p8 := (s2.2 h.length (by omega)).trans p8
    have S2 := S1.next c2 s2
    have ow2 := ow1.same s2 (by omega)
    refine Wp.step e2 ?_
    simp only [dBin_eql, bs]
    refine Wp.dif ?_ ?_
    · intro _
      refine Wp.loop (fun k ds g => ∃ b, ∃ i : Nat, ds = [.int .i64 i, b] ∧ St h o g ∧ g[h.length]? = some (.row ty74 11 [[.str [], .int .i64 0, .int .i64 0, .int .i64 0, .int .i64 0, .nils, .int .i64 0, .int .i64 0, .str [], .str [], .nils]])
        ∧ g[h.length + 1]? = some (.row ty31 10 [[.int .i64 host, .int .i64 file, .int .i64 fr, .int .i64 po, x, .int .i64 0, .int .i64 0, .str [], .str [], .nils]]) ∧ Own g (h.length + 2) ty78 3 (((ls.take i).map blank ++ ls.drop i).map linr) x ∧ k + i = ls.length)
        (fun r => r.1 = .ext 2 ∧ ∃ a b, r.2.1 = [a, b] ∧ St h o r.2.2 ∧ r.2.2[h.length]? = some (.row ty74 11 [[.str [], .int .i64 0, .int .i64 0, .int .i64 0, .int .i64 0, .nils, .int .i64 0, .int .i64 0, .str [], .str [], .nils]])
        ∧ r.2.2[h.length + 1]? = some (.row ty31 10 [[.int .i64 host, .int .i64 file, .int .i64 fr, .int .i64 po, x, .int .i64 0, .int .i64 0, .str [], .str [], .nils]]) ∧ Own r.2.2 (h.length + 2) ty78 3 ((ls.map blank).map linr) x) ls.length ⟨.any, 0, rfl, S2, p8, p9, by simpa [-Option.bind_some] using ow2, rfl⟩ ?_ ?_
      · clear S1 ow1 e2 c2 s2 S2 p8 p9 ow2
        rintro k ds g ⟨b, i, rfl, S, p8, p9, ow, hk⟩
        have hlen : (((ls.take i).map blank ++ ls.drop i).map linr).length = ls.length := by simp [-Option.bind_some]; omega
        have hlo := leno28 ow
        rw [hlen] at hlo
        simp only [F84_L1, nth_zero, nth_succ, bs, Option.bind_assoc, fap31_4, ldp28, row_of p9, List.getElem?_cons_zero, Nat.zero_add, List.drop_succ_cons, List.drop_zero, List.head?_cons, hlo, dBin_lss]
        refine Wp.dif ?_ ?_
        · intro h0
          have hi : i < ls.length := by have : (i : Int) < ls.length := by simpa [-Option.bind_some] using h0
                                        omega
          obtain ⟨ob, hob, rfl, hgo⟩ := own_ix ow (i := i) (by rw [hlen]; exact hi)
          rw [hlen] at *
          have hil : (i : Int) < ls.length := by omega
          have hw : IntKind.wrap .i64 ((i : Int) + 1) = ((i + 1 : Nat) : Int) := by
            rw [wrap_i64 (by omega) (by omega)]; omega
          simp only [ixm28, Int.natCast_nonneg, hil, and_self, if_true, Nat.zero_add, Int.toNat_natCast, bs, fap78_2]
          refine wst9 hgo (get_blank ls i hi) (by rfl) (by simp [-Option.bind_some, linr]) (by rfl) fun g1 hg1 sg => ?_
          have hset : (((ls.take i).map blank ++ ls.drop i).map linr).set i (spl (linr ls[i]) 2 (cells1 (.str []))) = ((ls.take (i + 1)).map blank ++ ls.drop (i + 1)).map linr := set_blank ls i hi
          rw [hset] at hg1
          simp only [dBin_add, bs, hw]
          refine .some (.inl ⟨rfl, k - 1, by omega, _, i + 1, rfl, S.app (Nat.le_of_eq sg.1.symm) fun q hq => sg.2 q (by omega), (sg.2 _ (by omega)).trans p8, (sg.2 _ (by omega)).trans p9, ?_, by omega⟩)
          refine .inr ⟨ob, hob, ?_, hg1⟩
          congr 1
          simp [-Option.bind_some]; omega
        · intro h0
          have hi : i = ls.length := by have : ¬ (i : Int) < ls.length := by simpa [-Option.bind_some] using h0
                                        omega
          subst hi
          refine .some (.inr ⟨by simp [-Option.bind_some], rfl, _, _, rfl, S, p8, p9, by simpa [-Option.bind_some] using ow⟩)
      · clear S1 ow1 e2 c2 s2 S2 p8 p9 ow2
        rintro ⟨ex, ds, g⟩ ⟨rfl, a, b, rfl, S, p8, p9, ow⟩
        simp only [unblk_self, toEnd_nrm, nth_zero, bs, lt98_4_ok]
        obtain ⟨v, g1, e1, c1, s1, v0, v1⟩ := next_b S.cd 3 (by omega) (by omega)
        obtain ⟨s, hs, hg⟩ := pick_of lt98_4 v v0 v1
        have p9' := (s1.2 (h.length + 1) (by omega)).trans p9
        replace p8 := (s1.2 h.length (by omega)).trans p8
        have S1 := S.next c1 s1
        have ow1 := ow.same s1 (by omega)
        refine Wp.step e1 ?_
        simp only [ix98, v0, if_true, List.getElem?_map, hg, Option.map_some, bs, ld9, ldob p9' rfl, ldob p9 rfl, bd74_0_1, chk_true]
        refine wst74 p8 (by rfl) (by rfl) (by simp [-Option.bind_some]) (by rfl) fun g2 q8 sg => ?_
        replace q8 : g2[h.length]? = some (.row ty74 11 [[.str s, .int .i64 host, .int .i64 file, .int .i64 fr, .int .i64 po, x, .int .i64 0, .int .i64 0, .str [], .str [], .nils]]) := q8
        have S2 : St h o g2 := S1.app (Nat.le_of_eq sg.1.symm) fun q hq => sg.2 q (by omega)
        have ow2 := ow1.keep (h' := g2) fun q hq _ => sg.2 q (by omega)
        simp only [ldob11 q8 rfl, bs, mkRes_one]
        have hsl := own_sl (n0 := h.length) (n := 2) ow2 (by omega) (fun a _ => linr_frz _ g2 _ a)
        have hsl2 := lt98_4_ne s hs
        obtain ⟨h', hsc, hcd, hsm⟩ := S2.scope (d := .agg [.str s, .int .i64 host, .int .i64 file, .int .i64 fr, .int .i64 po, x, .int .i64 0, .int .i64 0, .str [], .str [], .nils]) (d' := .agg (itr ⟨s, ⟨host, file, fr, po, ls.map blank, frz h.length g2 3 x, 0, 0, [], [], [], .nils, SlOf.nils _ _, by simp [-Option.bind_some], hsl, by simp [-Option.bind_some]; omega⟩⟩)) (by simp [-Option.bind_some, itr, evr]) (itr_ok _ _)
        rw [hsc]
        refine .some ⟨_, rfl, hcd, hsm, ⟨rfl, rfl, rfl, chain_blank _ _ _ hch, by simpa [-Option.bind_some] using hl1, by simpa [-Option.bind_some] using hl3, fun h0 => absurd h0 hsl2, fun h0 => absurd h0 hsl2, fun _ => ⟨hs, rfl, rfl, rfl, rfl, rfl, ?_⟩⟩⟩
        intro l hl
        simp [-Option.bind_some] at hl
        obtain ⟨l0, _, rfl⟩ := hl
        rfl
    · intro _
      clear e2 v0 v1
      obtain ⟨tm, g3, e3, c3, s3, t0, t1⟩ := d35 c2
      refine Wp.step e3 ?_
      simp only [bs]
      obtain ⟨wt, g4, e4, c4, s4, w0, w1, w2⟩ := d97 c3
      refine Wp.step e4 ?_
      have s3x4 := s3.trans s4
      replace p9 := (s3x4.2 (h.length + 1) (by omega)).trans p9
      replace p8 := (s3x4.2 h.length (by omega)).trans p8
      have S4 := S2.next c4 s3x4
      have ow4 := ow2.same s3x4 (by omega)
      clear e3 e4 S1 S2 c3 s3 c2 s2 s4 s3x4 ow1 ow2 c4
      simp only [bs, fap31_5, fap31_6, fap31_7, fap31_8, fap31_9, Nat.zero_add]
      refine wst3 p9 (by rfl) (by rfl) (by simp [-Option.bind_some]) (by rfl) fun g5 p9' sg => ?_
      refine wst3 p9' (by rfl) (by rfl) (by simp [-Option.bind_some, spl, cells1]) (by rfl) fun g6 p9'' sg2 => ?_
      replace sg := sg.trans sg2
      replace p9 : g6[h.length + 1]? = some (.row ty31 10 [[.int .i64 host, .int .i64 file, .int .i64 fr, .int .i64 po, x, .int .i64 tm, .int .i64 wt, .str [], .str [], .nils]]) := p9''
      replace p8 := (sg.2 h.length (by omega)).trans p8
      have S6 : St h o g6 := S4.app (Nat.le_of_eq sg.1.symm) fun q hq => sg.2 q (by omega)
      have ow6 := ow4.keep (h' := g6) fun q hq _ => sg.2 q (by omega)
      clear p9' p9'' sg sg2 S4 ow4
      simp only [lt98_5_ok, bs]
      obtain ⟨v, g7, e7, c7, s7, v0, v1⟩ := next_b S6.cd 4 (by omega) (by omega)
      obtain ⟨tr, htr, hg⟩ := pick_of lt98_5 v v0 v1
      refine Wp.step e7 ?_
      simp only [ix98, v0, if_true, List.getElem?_map, hg, Option.map_some, bs, ld9, lt98_6_ok]
      obtain ⟨v, g8, e8, c8, s8, v0, v1⟩ := next_b c7 2 (by omega) (by omega)
      obtain ⟨sm', hsm, hg⟩ := pick_of lt98_6 v v0 v1
      refine Wp.step e8 ?_
      simp only [ix98, v0, if_true, List.getElem?_map, hg, Option.map_some, bs, ld9, chk_true]
      have s7x8 := s7.trans s8
      replace p9 := (s7x8.2 (h.length + 1) (by omega)).trans p9
      replace p8 := (s7x8.2 h.length (by omega)).trans p8
      have S8 := S6.next c8 s7x8
      have ow8 := ow6.same s7x8 (by omega)
      clear e7 e8 S6 c7 s7 s8 s7x8 ow6 c8
      refine wst9 p9 (by rfl) (by rfl) (by simp [-Option.bind_some]) (by rfl) fun g9 p9' sg => ?_
      refine wst9 p9' (by rfl) (by rfl) (by simp [-Option.bind_some, spl, cells1]) (by rfl) fun g10 p9'' sg2 => ?_
      replace sg := sg.trans sg2
      replace p9 : g10[h.length + 1]? = some (.row ty31 10 [[.int .i64 host, .int .i64 file, .int .i64 fr, .int .i64 po, x, .int .i64 tm, .int .i64 wt, .str tr, .str sm', .nils]]) := p9''
      replace p8 := (sg.2 h.length (by omega)).trans p8
      have S10 : St h o g10 := S8.app (Nat.le_of_eq sg.1.symm) fun q hq => sg.2 q (by omega)
      have ow10 := ow8.keep (h' := g10) fun q hq _ => sg.2 q (by omega)
      clear p9' p9'' sg sg2 S8 ow8
      obtain ⟨y, g11, e11, c11, s11, fs, hy, hfs⟩ := d98 S10.cd
      refine Wp.step e11 ?_
      replace p9 := (s11.2 (h.length + 1) (by omega)).trans p9
      replace p8 := (s11.2 h.length (by omega)).trans p8
      have S11 := S10.next c11 s11
      have ow11 := ow10.same s11 (by omega)
      have oc := one_cells (slof_one hy)
      refine wst29 p9 (by rfl) (by rw [oc.1]; rfl) (by simp [-Option.bind_some]) oc.2 fun g12 p9' sg => ?_
      rw [oc.1] at p9'
      replace p9 : g12[h.length + 1]? = some (.row ty31 10 [[.int .i64 host, .int .i64 file, .int .i64 fr, .int .i64 po, x, .int .i64 tm, .int .i64 wt, .str tr, .str sm', y]]) := p9'
      replace p8 := (sg.2 h.length (by omega)).trans p8
      have S12 : St h o g12 := S11.app (Nat.le_of_eq sg.1.symm) fun q hq => sg.2 q (by omega)
      have ow12 := ow11.keep (h' := g12) fun q hq _ => sg.2 q (by omega)
      clear e11 S11 ow11 S10 ow10 s11 c11 sg p9'
      simp only [ldob p9 rfl, bs, bd74_1]
      refine wst74 p8 (by rfl) (by rfl) (by simp [-Option.bind_some]) (by rfl) fun g2 q8 sg => ?_
      replace q8 : g2[h.length]? = some (.row ty74 11 [[.str [], .int .i64 host, .int .i64 file, .int .i64 fr, .int .i64 po, x, .int .i64 tm, .int .i64 wt, .str tr, .str sm', y]]) := q8
      have S2 : St h o g2 := S12.app (Nat.le_of_eq sg.1.symm) fun q hq => sg.2 q (by omega)
      have ow2 := ow12.keep (h' := g2) fun q hq _ => sg.2 q (by omega)
      simp only [ldob11 q8 rfl, bs, mkRes_one]
      have hsl := own_sl (n0 := h.length) (n := 2) ow2 (by omega) (fun a _ => linr_frz _ g2 _ a)
      have hfl : fs.length ≤ 4 := by
        have := hfs.1.length_le
        simpa [-Option.bind_some] using this
      have hfy : frz h.length g2 3 y = y := slof_frz hy (fun a _ => fld_frz _ g2 _ a)
      obtain ⟨h', hsc, hcd, hsm2⟩ := S2.scope (d := .agg [.str [], .int .i64 host, .int .i64 file, .int .i64 fr, .int .i64 po, x, .int .i64 tm, .int .i64 wt, .str tr, .str sm', y]) (d' := .agg (itr ⟨[], ⟨host, file, fr, po, ls, frz h.length g2 3 x, tm, wt, tr, sm', fs, y, hy, by omega, hsl, by omega⟩⟩)) (by simp [-Option.bind_some, itr, evr, hfy]) (itr_ok _ _)
      rw [hsc]
      exact .some ⟨_, rfl, hcd, hsm2, ⟨rfl, rfl, rfl, hch, hl1, hl3, fun _ => ⟨t0, t1, w0, w1, htr, hsm, hfs, htx⟩, fun _ => w2, fun h0 => absurd rfl h0⟩⟩
/-- Items of a file that follow each other. -/
def items (hst fil : Int) : Int → List It → Int → Prop
  | a, [], b => a = b
  | a, i :: r, b => ItOK hst fil a i ∧ items hst fil i.e.a3 r b
theorem items_snoc (hst fil : Int) : ∀ (l : List It) (a b : Int) (i : It), items hst fil a l b → ItOK hst fil b i → items hst fil a (l ++ [i]) i.e.a3
  | [], a, b, i, h, hi => by
    simp only [items] at h
    subst h
    exact ⟨hi, rfl⟩
  | x :: r, a, b, i, h, hi => ⟨h.1, items_snoc hst fil r _ b i h.2 hi⟩
/-- What the files are so far. -/
def FilesOK (host most : Int) (P : List It → D → Prop) (ps : List (List It × D)) : Prop := ∀ (f : Nat) p, ps[f]? = some p → P p.1 p.2 ∧ p.1.length ≤ most ∧ ∃ po, items host (5 + f) 0 p.1 po
theorem FilesOK.mono {host most : Int} {P P' : List It → D → Prop} {ps : List (List It × D)} (h : FilesOK host most P ps) (k : ∀ a b, P a b → P' a b) : FilesOK host most P' ps := fun f p hp => ⟨k _ _ (h f p hp).1, (h f p hp).2⟩
theorem l71 {o N : Nat} (host most f : Int) (n0 : Nat) (ho : o < n0) (hN : n0 ≤ N) (ds0 : List D) (hds0 : nth 1 ds0 = .int .i64 f) (hf0 : 0 ≤ f) (hf1 : f ≤ 1000) {β : Type} {K : Out → Option β} {Q : β → Prop} (g : Hp) (n : Nat) (hn : n ≤ 1000) (a b : D) (hc : CD g o) (hNg : N ≤ g.length)
    (k : ∀ g' its po x a b c, Own g' N ty74 11 (its.map itr) x → CD g' o → Grow N o g g' → items host (5 + f) 0 its po → its.length = n → Wp (K (.ext 2, [x, .int .i64 po, a, b, c], g')) Q) :
    Wp ((loopW (F71_L1 (.ptr o 0 0) (.int .i64 host) ds0) [.nils, .int .i64 0, .int .i64 n, a, b] g).bind K) Q := by
  refine Wp.loop (fun k ds g' => ∃ x po a b, ∃ its : List It, ds = [x, .int .i64 po, .int .i64 k, a, b] ∧ Own g' N ty74 11 (its.map itr) x ∧ CD g' o ∧ Grow N o g g' ∧ items host (5 + f) 0 its po ∧ 0 ≤ po ∧ po ≤ 108 * its.length ∧ its.length + k = n)
    (fun r => r.1 = .ext 2 ∧ ∃ x po a b c, ∃ its : List It, r.2.1 = [x, .int .i64 po, a, b, c] ∧ Own r.2.2 N ty74 11 (its.map itr) x ∧ CD r.2.2 o ∧ Grow N o g r.2.2 ∧ items host (5 + f) 0 its po ∧ its.length = n)
    n ⟨.nils, 0, a, b, [], rfl, Own.nils _ _ _ _, hc, .refl _ _ _, rfl, by omega, by simp [-Option.bind_some], by simp [-Option.bind_some]⟩ ?_ ?_
  · rintro k ds g' ⟨x, po, a, b, its, rfl, ow, hc', hg, hit, hp0, hp1, hk⟩
    simp only [F71_L1, nth_zero, nth_succ, bs, dBin_gtr, hds0, dBin_add, wrap_i64 (n := 5 + f) (by omega) (by omega)]
    refine Wp.dif ?_ ?_
    · intro h0
      have h0 : 0 < (k : Int) := by simpa [-Option.bind_some] using h0
      obtain ⟨i, g1, e1, c1, s1, hi⟩ := d84 hc' host (5 + f) po hp0 (by omega)
      have hcl := chain_le _ _ _ hi.ch
      have hn3 := hi.n3
      have hn1 := hi.n1
      have ow1 := ow.same s1 (by omega)
      refine Wp.step e1 ?_
      simp only [boxIt, bs, ldIt, bsIt]
      refine wap113 (by have := hg.1; have := s1.1; omega) ow1 (rowsOf_sl _ _ _ _) (by simp [-Option.bind_some]; omega) fun x' g2 ow2 len bel _ _ => ?_
      have hto := toIt i g2
      cases hfa : dFieldAddr tab ty74 1 (.fptr (itr i)) with
      | none => rw [hfa] at hto; cases hto
      | some p =>
        rw [hfa] at hto
        simp only [bs] at hto
        cases hfb : dFieldAddr tab ty31 3 p with
        | none => rw [hfb] at hto; cases hto
        | some q =>
          rw [hfb] at hto
          simp only [bs] at hto
          have hk1 : IntKind.wrap .i64 ((k : Int) - 1) = ((k - 1 : Nat) : Int) := by
            rw [wrap_i64 (by omega) (by omega)]; omega
          simp only [bs, hfa, hfb, hto, dBin_sub, hk1]
          refine .some (.inl ⟨rfl, k - 1, by omega, x', i.e.a3, _, _, its ++ [i], rfl, by rw [List.map_append]; exact ow2, c1.keep (bel o (by omega)), (hg.trans s1.grow).trans ⟨len, fun q hq _ => bel q hq⟩, items_snoc _ _ _ _ _ _ hit hi, by omega, by simp [-Option.bind_some]; omega, by simp [-Option.bind_some]; omega⟩)
    · intro h0
      have h0 : ¬ 0 < (k : Int) := by simpa [-Option.bind_some] using h0
      exact .some (.inr ⟨by simp [-Option.bind_some], rfl, x, po, _, _, _, its, rfl, ow, hc', hg, hit, by omega⟩)
  · rintro ⟨ex, ds, g'⟩ ⟨rfl, x, po, a, b, c, its, rfl, ow, hc', hg, hit, hn⟩
    exact k g' its po x a b c ow hc' hg hit hn
theorem d71n {h : Hp} {o : Nat} (hc : CD h o) (host most : Int) (hm0 : 0 ≤ most) (hm1 : most ≤ 100) : ∃ x h', R fn71 [.ptr o 0 0, .int .i64 host, .int .i64 most] h = some (x, h') ∧ CD h' o ∧ Same o h h' ∧ ∃ ps : List (List It × D), SlOf 1 (fun p => [p.2]) ps x ∧ ps.length ≤ 3 ∧ 1 ≤ ps.length ∧ FilesOK host most (SlOf 11 itr) ps := by
  suffices Wp (R fn71 [.ptr o 0 0, .int .i64 host, .int .i64 most] h) (fun p => CD p.2 o ∧ Same o h p.2 ∧ ∃ ps : List (List It × D), SlOf 1 (fun p => [p.2]) ps p.1 ∧ ps.length ≤ 3 ∧ 1 ≤ ps.length ∧ FilesOK host most (SlOf 11 itr) ps) by
    obtain ⟨⟨x, h'⟩, h1, h2⟩ := this
    exact ⟨x, h', h1, h2⟩
  have ho := hc.lt
  rw [e71]
  simp only [F71, bs, Option.bind_assoc]
  refine Wp.loop (fun k ds g => ∃ x a b c d e f', ∃ f : Nat, ∃ ps : List (List It × D), ds = [x, .int .i64 f, a, b, c, d, e, f'] ∧ St h o g ∧ Own g h.length ty113 1 (ps.map fun p => [p.2]) x ∧ ps.length = f ∧ k + f = 3 ∧ FilesOK host most (fun l d => Own g h.length ty74 11 (l.map itr) d) ps)
    (fun r => r.1 = .ext 0 ∧ ∃ x a b c d e f' h', ∃ ps : List (List It × D), r.2.1 = [x, a, b, c, d, e, f', h'] ∧ St h o r.2.2 ∧ Own r.2.2 h.length ty113 1 (ps.map fun p => [p.2]) x ∧ ps.length ≤ 3 ∧ 1 ≤ ps.length ∧ FilesOK host most (fun l d => Own r.2.2 h.length ty74 11 (l.map itr) d) ps)
    3 ⟨.nils, .any, .any, .any, .any, .any, .any, 0, [], rfl, .refl hc, Own.nils _ _ _ _, rfl, rfl, fun f p hp => by simp [-Option.bind_some] at hp⟩ ?_ ?_
  · rintro k ds g ⟨x, a, b, c, d, e, f', f, ps, rfl, S, ow, hpf, hk, hps⟩
    simp only [F71_L0, nth_zero, nth_succ, bs, Option.bind_assoc]
    obtain ⟨v, g1, e1, c1, s1, v0, v1⟩ := next_b S.cd 3 (by omega) (by omega)
    have S1 := S.next c1 s1
    have ow1 := ow.same s1 ho
    have hps1 : FilesOK host most (fun l d => Own g1 h.length ty74 11 (l.map itr) d) ps := hps.mono fun _ _ w => w.same s1 ho
    refine Wp.step e1 ?_
    simp only [dBin_leq, bs]
    refine Wp.dif ?_ ?_
    · intro h0
      have h0 : (f : Int) ≤ v := by simpa [-Option.bind_some] using h0
      simp only [dBin_add, bs, wrap_i64 (n := most + 1) (by omega) (by omega)]
      obtain ⟨n, g2, e2, c2, s2, n0, n1⟩ := next_b c1 (most + 1) (by omega) (by omega)
      have S2 := S1.next c2 s2
      have ow2 := ow1.same s2 ho
      have hps2 : FilesOK host most (fun l d => Own g2 h.length ty74 11 (l.map itr) d) ps := hps1.mono fun _ _ w => w.same s2 ho
      refine Wp.step e2 ?_
      simp only [bs]
      rw [← Int.toNat_of_nonneg n0]
      refine l71 (N := g2.length) host most f h.length ho S2.le _ (by rfl) (by omega) (by omega) g2 n.toNat (by omega) _ _ c2 (Nat.le_refl _) ?_
      intro g3 its po y a' b' c' owy c3 gr hit hlen
      have bel : ∀ q, q < g2.length → q ≠ o → g3[q]? = g2[q]? := gr.2
      have S3 : St h o g3 := ⟨ho, c3, S2.gr.trans ⟨gr.1, fun q hq hn => bel q (by have := S2.le; omega) hn⟩⟩
      have ow3 : Own g3 h.length ty113 1 (ps.map fun p => [p.2]) x := ow2.keep fun q hq hin => bel q (ow2.lt hin).2 (by omega)
      have hps3 : FilesOK host most (fun l d => Own g3 h.length ty74 11 (l.map itr) d) ps := hps2.mono fun _ _ w => w.keep fun q hq hin => bel q (w.lt hin).2 (by omega)
      have owy' : Own g3 h.length ty74 11 (its.map itr) y := owy.from S2.le
      simp only [unblk_self, toEnd_nrm, nth_zero, nth_succ, bs, bs111_1 y (own_one owy)]
      have hw : IntKind.wrap .i64 ((f : Int) + 1) = ((f + 1 : Nat) : Int) := by
        rw [wrap_i64 (by omega) (by omega)]; omega
      refine wap111 S3.le ow3 (rowsOf_sl _ _ _ _) (by simp [-Option.bind_some]; omega) fun x' g4 ow4 len bel4 keep4 _ => ?_
      simp only [bs, hw]
      have kp : ∀ (l : List It) (d : D), Own g3 h.length ty74 11 (l.map itr) d → Own g4 h.length ty74 11 (l.map itr) d := fun l d w => w.keep fun q hq hin => keep4 q (w.lt hin).2 (own_dis w ow3 (by decide) hin)
      refine .some (.inl ⟨rfl, k - 1, by omega, x', _, _, _, _, _, _, f + 1, ps ++ [(its, y)], rfl, S3.app len bel4, by rw [List.map_append]; exact ow4, by simp [-Option.bind_some]; omega, by omega, fun j p hp => ?_⟩)
      rcases Nat.lt_or_ge j ps.length with hj | hj
      · rw [List.getElem?_append_left hj] at hp
        exact ⟨kp _ _ (hps3 j p hp).1, (hps3 j p hp).2⟩
      · rw [List.getElem?_append_right hj] at hp
        have hj0 : j - ps.length = 0 := by
          have := (List.getElem?_eq_some_iff.1 hp).1
          simpa [-Option.bind_some] using this
        rw [hj0] at hp
        simp [-Option.bind_some] at hp
        subst hp
        have hjf : j = f := by omega
        subst hjf
        exact ⟨kp _ _ owy', by simp only; omega, po, hit⟩
    · intro h0
      have h0 : ¬ (f : Int) ≤ v := by simpa [-Option.bind_some] using h0
      exact .some (.inr ⟨by simp [-Option.bind_some], rfl, x, _, _, _, _, _, _, _, ps, rfl, S1, ow1, by omega, by omega, hps1⟩)
  · rintro ⟨ex, ds, g⟩ ⟨rfl, x, a, b, c, d, e, f', h', ps, rfl, S, ow, hpl, hpl1, hps⟩
    simp only [unblk_self, toEnd_nrm, nth_zero, bs, mkRes_one]
    have hfz : SlOf 1 (fun p : List It × D => [p.2]) (ps.map fun p => (p.1, frz h.length g 3 p.2)) (frz h.length g 4 x) := by
      rcases ow with ⟨rfl, hr⟩ | ⟨ob, hob, rfl, hgo⟩
      · have : ps = [] := by simpa [-Option.bind_some] using hr
        subst this
        exact .inl ⟨rfl, rfl⟩
      · right
        refine ⟨false, ?_⟩
        rw [frz_msl hob hgo]
        simp [-Option.bind_some]
        rw [List.take_of_length_le (by simp [-Option.bind_some])]
        rfl
    have hps' : FilesOK host most (SlOf 11 itr) (ps.map fun p => (p.1, frz h.length g 3 p.2)) := by
      intro j p hp
      rw [List.getElem?_map] at hp
      cases hq : ps[j]? with
      | none => rw [hq] at hp; cases hp
      | some q =>
        rw [hq] at hp
        simp [-Option.bind_some] at hp
        subst hp
        exact ⟨own_sl (hps j q hq).1 (Nat.le_refl _) fun a _ => itr_frz _ _ _ a, (hps j q hq).2⟩
    obtain ⟨h', hs, hcd, hsm⟩ := S.scope rfl (slof_ok hfz fun a ha d hd => by
      simp [-Option.bind_some] at hd
      subst hd
      obtain ⟨j, hj⟩ := List.getElem?_of_mem ha
      exact slof_ok (hps' j a hj).1 fun i _ => itr_oks _ i)
    exact ⟨_, hs, hcd, hsm, _, hfz, by simpa [-Option.bind_some] using hpl, by simpa [-Option.bind_some] using hpl1, hps'⟩
def letter (c : Int) : Bool := (decide (97 ≤ c) && decide (c ≤ 122)) || (decide (65 ≤ c) && decide (c ≤ 90))
def digit (c : Int) : Bool := decide (48 ≤ c) && decide (c ≤ 57)
def wordc (c : Int) : Bool := (digit c || letter c) || decide (c = 95)
theorem s1019 (c : Int) (h : Hp) : R fn1019 [.int .u8 c] h = some (.bool (letter c), h) := by
  rw [e1019]
  simp [-Option.bind_some, F1019, letter]
  by_cases h0 : 97 ≤ c <;> by_cases h1 : c ≤ 122 <;> by_cases h2 : 65 ≤ c <;> by_cases h3 : c ≤ 90 <;> simp [-Option.bind_some, h0, h1, h2, h3]
theorem s1021 (c : Int) (h : Hp) : R fn1021 [.int .u8 c] h = some (.bool (digit c), h) := by
  rw [e1021]
  simp [-Option.bind_some, F1021, digit]
  by_cases h0 : 48 ≤ c <;> by_cases h1 : c ≤ 57 <;> simp [-Option.bind_some, h0, h1]
theorem s1020 (c : Int) (h : Hp) : R fn1020 [.int .u8 c] h = some (.bool (wordc c), h) := by
  rw [e1020]
  cases hd : digit c <;> cases hl : letter c <;> simp [-Option.bind_some, F1020, s1021, s1019, wordc, hd, hl]
def nameC (c : UInt8) : Bool := wordc c.toNat || decide ((c.toNat : Int) = 46)
def fnameOK (s : Str) : Bool := match s with
  | [] => false
  | c :: r => decide ((c :: r).length ≤ 32) && (letter c.toNat || decide ((c.toNat : Int) = 95)) && (c :: r).all nameC
theorem sidx (s : Str) (i : Nat) (c : UInt8) (hc : s[i]? = some c) : dIndex tab ty9 (.str s) (.int .i64 i) = some (.int .u8 c.toNat) := by
  show (if (0 : Int) ≤ (i : Int) then (match s[(i : Int).toNat]? with | some c => some (D.int .u8 c.toNat) | none => none) else none) = _
  simp [-Option.bind_some, hc]
theorem l1018 (s : Str) (h : Hp) (hl : s.length ≤ 9223372036854775807) {β : Type} (K : Out → Option β) (X : Bool → Option β)
   (hX : ∀ r, K (.ret, .bool false :: r, h) = X false) (hY : ∀ r, K (.ext 0, r, h) = X true) : ∀ (suf pre : Str), s = pre ++ suf → ∀ a b e,
   (loopW (F1018_L0 (.str s)) [a, .int .i64 pre.length, b, e] h).bind K = X (suf.all nameC) := by
  intro suf
  induction suf with
  | nil =>
    rintro pre rfl a b e
    rw [loopW_eq]
    simp [-Option.bind_some, F1018_L0, hY]
  | cons p suf ih =>
    rintro pre rfl a b e
    have hw : IntKind.wrap .i64 ((pre.length : Int) + 1) = (pre ++ [p]).length := by
      rw [wrap_i64 (by omega) (by simp [-Option.bind_some] at hl; omega)]; simp [-Option.bind_some]
    have hlt : (pre.length : Int) < (pre ++ p :: suf).length := by simp [-Option.bind_some]; omega
    rw [loopW_eq]
    generalize hL : pre ++ p :: suf = L at *
    have hg : L[pre.length]? = some p := by rw [← hL]; exact get_mid _ _ _
    have hix := sidx L pre.length p hg
    cases hp : wordc p.toNat
    · by_cases h46 : (p.toNat : Int) = 46
      · have := ih (pre ++ [p]) (by simp [-Option.bind_some, ← hL]) a (.bool true) (.bool (decide ((p.toNat : Int) ≠ 46)))
        simp only [← hw] at this
        have h47 : wordc 46 = false := rfl
        simp [-Option.bind_some, F1018_L0, hlt, hix, s1020, hp, nameC, h46, h47]
        simp [-Option.bind_some, h46] at this
        exact this
      · simp [-Option.bind_some, F1018_L0, hlt, hix, s1020, hp, nameC, h46, hX]
    · have := ih (pre ++ [p]) (by simp [-Option.bind_some, ← hL]) a (.bool true) (.bool false)
      simp only [← hw] at this
      simp [-Option.bind_some, F1018_L0, hlt, hix, s1020, hp, nameC]
      exact this
theorem s1018 (s : Str) (h : Hp) (hl : s.length ≤ 9223372036854775807) : R fn1018 [.str s] h = some (.bool (fnameOK s), h) := by
  rw [e1018]
  cases s with
  | nil => simp [-Option.bind_some, F1018, fnameOK]
  | cons c r =>
    have hi0 : dIndex tab ty9 (.str (c :: r)) (.int .i64 0) = some (.int .u8 c.toNat) := sidx (c :: r) 0 c rfl
    have h1 : ¬ ((c :: r).length : Int) < 1 := by simp [-Option.bind_some]; omega
    have hlp := l1018 (c :: r) h hl (fun r_1 => (some (unblk 0 r_1.1, [nth 0 r_1.2.1, nth 1 r_1.2.1, nth 2 r_1.2.1, nth 3 r_1.2.1], r_1.2.2)).bind fun r_1 => toEnd r_1.1 (some (.bool true, r_1.2.2)) fun x => exEnd x (some (nth 0 r_1.2.1, r_1.2.2))) (fun b => some (.bool b, h)) (fun r => by simp [-Option.bind_some]) (fun r => by simp [-Option.bind_some]) (c :: r) [] rfl
    simp only [bs] at hlp
    by_cases h32 : (32 : Int) < ((c :: r).length : Int)
    · have h33 : ¬ (c :: r).length ≤ 32 := by omega
      simp only [F1018, bs, len9, dBin_lss, dBin_gtr, gd_bool, dPick_bool, h32, h1, decide_true, decide_false, gdW_bool, dIf_bool, mkRes_one, if_true, if_false, Bool.false_eq_true, reduceCtorEq, fnameOK, h33, Bool.false_and, gd_und, bs]
    · have h33 : (c :: r).length ≤ 32 := by omega
      cases hq : letter c.toNat
      · by_cases h95 : (c.toNat : Int) = 95
        · simp only [F1018, bs, len9, dBin_lss, dBin_gtr, gd_bool, dPick_bool, h32, h1, decide_true, decide_false, gdW_bool, dIf_bool, mkRes_one, if_true, if_false, Bool.false_eq_true, reduceCtorEq, fnameOK, h33, Bool.false_and, hi0, s1019, hq, show letter 95 = false from rfl, dUn_not, Bool.not_false, dBin_neq, h95, ne_eq, not_true, Option.bind_assoc]
          refine (hlp _ _ _).trans ?_
          simp [-Option.bind_some, nameC]
        · simp only [F1018, bs, len9, dBin_lss, dBin_gtr, gd_bool, dPick_bool, h32, h1, decide_true, decide_false, gdW_bool, dIf_bool, mkRes_one, if_true, if_false, Bool.false_eq_true, reduceCtorEq, fnameOK, h33, Bool.false_and, hi0, s1019, hq, dUn_not, Bool.not_false, dBin_neq, h95, ne_eq, not_true, not_false_eq_true, Bool.or_false, Bool.and_false]
      · simp only [F1018, bs, len9, dBin_lss, dBin_gtr, gd_bool, dPick_bool, h32, h1, decide_true, decide_false, gdW_bool, dIf_bool, mkRes_one, if_true, if_false, Bool.false_eq_true, reduceCtorEq, fnameOK, h33, Bool.false_and, hi0, s1019, hq, dUn_not, Bool.not_true, gd_und, Option.bind_assoc]
        refine (hlp _ _ _).trans ?_
        simp [-Option.bind_some, nameC]
def Asc (l : List (Str × Str)) : Prop := ∀ i p q, l[i]? = some p → l[i + 1]? = some q → Op.bytesLess p.1 q.1 = true ∧ p.1 ≠ q.1
theorem sgtr (t : Nat) (s u : Str) : dBin tab .gtr t (.str s) (.str u) = some (.bool (!(Op.bytesLess s u || s == u))) := id rfl
theorem fld_f0 (p : Str × Str) : (dFieldAddr tab ty109 0 (.fptr (fld p))) = some (.fptr (fld p)) := id rfl
theorem fld_l0 (p : Str × Str) (h : Hp) : dLoad tab h ty9 (.fptr (fld p)) = some (.str p.1) := id rfl
theorem l1015a (l : List (Str × Str)) (d : D) (h : Hp) (hd : SlOf 2 fld l d) (hl : l.length ≤ 32) (hn : ∀ p ∈ l, fnameOK p.1 = true ∧ p.1.length ≤ 1000) {β : Type} {K : Out → Option β} {Q : β → Prop} (a b : D)
    (cont : ∀ x y z w v, Wp (K (.ext 0, [x, y, z, w, v], h)) Q) : Wp ((loopW (F1015_L0 d) [a, b, .int .i64 0, .any, .any] h).bind K) Q := by
  refine Wp.loop (fun k ds g => g = h ∧ ∃ a b c e, ∃ i : Nat, ds = [a, b, .int .i64 i, c, e] ∧ k + i = l.length)
      (fun x => x.1 = .ext 0 ∧ x.2.2 = h ∧ ∃ a b c d e, x.2.1 = [a, b, c, d, e]) l.length ⟨rfl, _, _, _, _, 0, rfl, rfl⟩ ?_ ?_
  · rintro k ds g ⟨rfl, a, b, c, e, i, rfl, hk⟩
    simp only [F1015_L0, nth_zero, nth_succ, bs, Option.bind_assoc, lens29 hd, dBin_lss]
    refine Wp.dif ?_ ?_
    · intro h0
      have h0 : i < l.length := by have : (i : Int) < l.length := by simpa [-Option.bind_some] using h0
                                   omega
      have hg : l[i]? = some l[i] := List.getElem?_eq_getElem h0
      have hnn := hn l[i] (List.getElem_mem _)
      have hw : IntKind.wrap .i64 ((i : Int) + 1) = ((i + 1 : Nat) : Int) := by
        rw [wrap_i64 (by omega) (by omega)]; omega
      generalize l[i] = x at hg hnn
      simp only [ixs29 hd, Int.natCast_nonneg, if_true, Int.toNat_natCast, hg, Option.map_some, bs, fld_f0 x, fld_l0, s1018 x.1 g (by omega), hnn.1, dUn_not, Bool.not_true, dIf_bool, Bool.false_eq_true, if_false, dBin_add, hw]
      exact .some (.inl ⟨rfl, k - 1, by omega, rfl, _, _, _, _, i + 1, rfl, by omega⟩)
    · intro h0
      exact .some (.inr ⟨by simp [-Option.bind_some], rfl, rfl, _, _, _, _, _, rfl⟩)
  · rintro ⟨x, ds, g⟩ ⟨h1, h2, a, b, c, d, e, h3⟩
    subst h2
    simp only at h1 h3
    subst h1; subst h3
    exact cont _ _ _ _ _
theorem s1015 (l : List (Str × Str)) (d : D) (h : Hp) (hd : SlOf 2 fld l d) (hl : l.length ≤ 32) (hn : ∀ p ∈ l, fnameOK p.1 = true ∧ p.1.length ≤ 1000) (ha : Asc l) : ∃ d', R fn1015 [d] h = some (.tup [d', .int .i64 0], h) ∧ SlOf 2 fld l d' := by
  suffices Wp (R fn1015 [d] h) (fun p => p.2 = h ∧ ∃ d', p.1 = .tup [d', .int .i64 0] ∧ SlOf 2 fld l d') by
    obtain ⟨⟨x, h'⟩, h1, rfl, d', rfl, h2⟩ := this
    exact ⟨d', h1, h2⟩
  rw [e1015]
  have h32 : ¬ (32 : Int) < (l.length : Int) := by omega
  simp only [F1015, bs, Option.bind_assoc, lens29 hd, dBin_gtr, h32, decide_false, dIf_bool, Bool.false_eq_true, if_false]
  refine l1015a l d h hd hl hn _ _ fun x y z w v => ?_
  simp only [unblk_self, toEnd_nrm, nth_zero, nth_succ, bs]
  clear z w v
  refine Wp.loop (fun k ds g => h.length ≤ g.length ∧ (∀ q, q < h.length → g[q]? = h[q]?) ∧ ∃ a b x c e f u, ∃ i : Nat, ds = [a, b, x, .int .i64 i, c, e, f, u] ∧ k + i = l.length ∧ Own g h.length ty109 2 ((l.take i).map fld) x)
      (fun x => x.1 = .ext 2 ∧ h.length ≤ x.2.2.length ∧ (∀ q, q < h.length → x.2.2[q]? = h[q]?) ∧ Own x.2.2 h.length ty109 2 (l.map fld) (nth 2 x.2.1)) l.length ⟨Nat.le_refl _, fun _ _ => rfl, _, _, _, _, _, _, _, 0, rfl, rfl, Own.nils _ _ _ _⟩ ?_ ?_
  · rintro k ds g ⟨hgl, hgq, a, b, x, c, e, f, u, i, rfl, hk, ow⟩
    simp only [F1015_L1, nth_zero, nth_succ, bs, Option.bind_assoc, lens29 hd, dBin_lss]
    refine Wp.dif ?_ ?_
    · intro h0
      have h0 : i < l.length := by have : (i : Int) < l.length := by simpa [-Option.bind_some] using h0
                                   omega
      have hg : l[i]? = some l[i] := List.getElem?_eq_getElem h0
      have hw : IntKind.wrap .i64 ((i : Int) + 1) = ((i + 1 : Nat) : Int) := by
        rw [wrap_i64 (by omega) (by omega)]; omega
      have htk : l.take (i + 1) = l.take i ++ [l[i]] := by rw [List.take_add_one, hg]; rfl
      have hti : ((l.take i).map fld).length = i := by simp [-Option.bind_some]; omega
      generalize l[i] = y at hg htk
      have hb : pLitF tab ty29 1 [0] [.agg (fld y)] = some (.sl 2 true [fld y]) := id rfl
      simp only [leno29 ow, hti, ixs29 hd, Int.natCast_nonneg, if_true, Int.toNat_natCast, hg, Option.map_some, bs, fld_ld, hb]
      refine wap29 hgl ow (rowsOf_sl _ _ _ _) (by simp [-Option.bind_some]; omega) fun x1 g1 ow1 len1 bel1 _ _ => ?_
      have hrow : (l.take i).map fld ++ [fld y] = (l.take (i + 1)).map fld := by rw [htk]; simp [-Option.bind_some]
      rw [hrow] at ow1
      have hti1 : ((l.take (i + 1)).map fld).length = i + 1 := by simp [-Option.bind_some]; omega
      obtain ⟨ob, hob, rfl, hgo⟩ := own_ix ow1 (i := i) (by omega)
      rw [hti1] at *
      clear hti1
      have hti1 : ((l.take (i + 1)).map fld).length = i + 1 := by simp [-Option.bind_some]; omega
      have hyr : ((l.take (i + 1)).map fld)[i]? = some (fld y) := by
        rw [List.getElem?_map, List.getElem?_take, if_pos (by omega), hg]; rfl
      have hyl : (fld y) = [.str y.1, .str y.2] := rfl
      have rw1 : g1.row ob i = some (fld y) := by rw [row_of hgo]; exact hyr
      simp only [bs]
      rw [loopW_eq]
      have hL : F1015_L2 d [a, b, x, .int .i64 i, c, e, f, u] (.msl 2 ob 0 (i + 1)) [.int .i64 i, f] g1 = some (.ext 4, [.int .i64 i, .bool false], g1) := by
        by_cases hi : i = 0
        · subst hi
          simp [-Option.bind_some, F1015_L2]
        · have hi0 : (0 : Int) < i := by omega
          have hw1 : IntKind.wrap .i64 ((i : Int) - 1) = ((i - 1 : Nat) : Int) := by
            rw [wrap_i64 (by omega) (by omega)]; omega
          have hgp : l[i - 1]? = some (l[i - 1]'(by omega)) := List.getElem?_eq_getElem (by omega)
          generalize l[i - 1]'(by omega) = z at hgp
          have hz : ((l.take (i + 1)).map fld)[i - 1]? = some (fld z) := by
            rw [List.getElem?_map, List.getElem?_take, if_pos (by omega), hgp]; rfl
          have rz : g1.row ob (i - 1) = some (fld z) := by rw [row_of hgo]; exact hz
          have hlt : ((i - 1 : Nat) : Int) < ((i + 1 : Nat) : Int) := by omega
          have has := (ha (i - 1) z y hgp (by rw [show i - 1 + 1 = i by omega]; exact hg)).1
          simp only [F1015_L2, nth_zero, nth_succ, bs, dBin_gtr, hi0, decide_true, gd_bool, if_true, dBin_sub, hw1, ixm29, Int.natCast_nonneg, true_and, hlt, Int.toNat_natCast, Nat.zero_add, fap109_0, ldp9, rz, hyl, fld, List.drop_zero, List.head?_cons, ixs29 hd, hg, Option.map_some, fa109_0, ld9, sgtr, has, Bool.true_or, Bool.not_true, dPick_bool, dIf_bool, Bool.false_eq_true, if_false]
      rw [hL]
      simp only [bs, unblk_self, toEnd_nrm, nth_zero, nth_succ, ixs29 hd, Int.natCast_nonneg, if_true, Int.toNat_natCast, hg, Option.map_some, fld_ld, ixm29, true_and, show (i : Int) < ((i + 1 : Nat) : Int) by omega, Nat.zero_add]
      refine wst109 hgo hyr (by rfl) (by simp [-Option.bind_some, fld]) (by rfl) fun g2 q2 s2 => ?_
      have hset : ((l.take (i + 1)).map fld).set i (spl (fld y) 0 (cells1 (.agg (fld y)))) = (l.take (i + 1)).map fld := by
        rw [show spl (fld y) 0 (cells1 (.agg (fld y))) = fld y from rfl]
        refine List.ext_getElem? fun j => ?_
        rw [List.getElem?_set]
        split
        · rename_i hj; subst hj; rw [if_pos (by omega)]; exact hyr.symm
        · rfl
      rw [hset] at q2
      have ow2 : Own g2 h.length ty109 2 ((l.take (i + 1)).map fld) (.msl 2 ob 0 (i + 1)) := .inr ⟨ob, hob, by rw [hti1], q2⟩
      have hgl2 : h.length ≤ g2.length := by have := s2.1; omega
      have hgq2 : ∀ q, q < h.length → g2[q]? = h[q]? := fun q hq => ((s2.2 q (by omega)).trans (bel1 q hq)).trans (hgq q hq)
      by_cases hi : i = 0
      · subst hi
        simp only [bs, dBin_gtr, show ¬ (0 : Int) < ((0 : Nat) : Int) by omega, decide_false, gd_bool, Bool.false_eq_true, if_false, dPick_bool, gd_und, dIf_bool, dBin_add, hw]
        exact .some (.inl ⟨rfl, k - 1, by omega, hgl2, hgq2, _, _, _, _, _, _, _, 0 + 1, rfl, by omega, ow2⟩)
      · have hi0 : (0 : Int) < i := by omega
        have hw1 : IntKind.wrap .i64 ((i : Int) - 1) = ((i - 1 : Nat) : Int) := by
          rw [wrap_i64 (by omega) (by omega)]; omega
        have hgp : l[i - 1]? = some (l[i - 1]'(by omega)) := List.getElem?_eq_getElem (by omega)
        generalize l[i - 1]'(by omega) = z at hgp
        have hz : ((l.take (i + 1)).map fld)[i - 1]? = some (fld z) := by
          rw [List.getElem?_map, List.getElem?_take, if_pos (by omega), hgp]; rfl
        have rz : g2.row ob (i - 1) = some (fld z) := by rw [row_of q2]; exact hz
        have hlt : ((i - 1 : Nat) : Int) < ((i + 1 : Nat) : Int) := by omega
        have has := (ha (i - 1) z y hgp (by rw [show i - 1 + 1 = i by omega]; exact hg)).2
        have hne : (z.1 == y.1) = false := by simpa [-Option.bind_some] using has
        simp only [bs, dBin_gtr, hi0, decide_true, gd_bool, if_true, dBin_sub, hw1, ixm29, Int.natCast_nonneg, true_and, hlt, Int.toNat_natCast, Nat.zero_add, fap109_0, ldp9, rz, hyl, fld, List.drop_zero, List.head?_cons, ixs29 hd, hg, Option.map_some, fa109_0, ld9, dBin_seql, hne, dPick_bool, dIf_bool, Bool.false_eq_true, if_false, dBin_add, hw]
        exact .some (.inl ⟨rfl, k - 1, by omega, hgl2, hgq2, _, _, _, _, _, _, _, i + 1, rfl, by omega, ow2⟩)
    · intro h0
      have h0 : i = l.length := by have : ¬ (i : Int) < l.length := by simpa [-Option.bind_some] using h0
                                   omega
      subst h0
      rw [List.take_length] at ow
      exact .some (.inr ⟨by simp [-Option.bind_some], rfl, hgl, hgq, ow⟩)
  · rintro ⟨ex, ds, g⟩ ⟨h1, hgl, hgq, ow⟩
    simp only at h1 hgl hgq ow
    subst h1
    simp only [unblk_self, toEnd_nrm, nth_zero, nth_succ, bs, mkRes_two]
    have hsl := own_sl (n0 := h.length) (n := 2) ow (Nat.le_refl _) (fun a _ => fld_frz _ g _ a)
    rw [scope_eq (d' := .tup [frz h.length g 3 (nth 2 ds), .int .i64 0]) (by simp [-Option.bind_some]) (by
      refine .tup _ fun d hd => ?_
      simp [-Option.bind_some] at hd
      rcases hd with rfl | rfl
      · exact slof_ok hsl fun a _ => fld_ok _ a
      · constructor) hgl hgq]
    exact .some ⟨rfl, _, rfl, hsl⟩
structure PlOK (e : Ev) : Prop where
  h0 : 0 ≤ e.a0
  h9 : e.a0 ≤ 999
  f0 : 0 ≤ e.a1
  f9 : e.a1 ≤ 2147483646
  a0 : 0 ≤ e.a2
  ab : e.a2 < e.a3
  b9 : e.a3 ≤ 60000
theorem s1011 (e : Ev) (h : Hp) (he : PlOK e) : R fn1011 [.agg (evr e)] h = some (.int .i64 0, h) := by
  obtain ⟨h1, h2, h3, h4, h5, h6, h7⟩ := he
  have g1 : ¬ e.a0 < 0 := by omega
  have g2 : ¬ 999 < e.a0 := by omega
  have g3 : ¬ e.a1 < 0 := by omega
  have g4 : ¬ 2147483646 < e.a1 := by omega
  have g5 : ¬ e.a2 < 0 := by omega
  have g6 : ¬ e.a3 ≤ e.a2 := by omega
  have g7 : ¬ 60000 < e.a3 := by omega
  rw [e1011]
  simp only [F1011, pBoxF_agg, bs, evr, fa31_0, fa31_1, fa31_2, fa31_3, ld3, dBin_lss, dBin_gtr, dBin_leq, g1, g2, g3, g4, g5, g6, g7, decide_false, gd_bool, if_true, if_false, Bool.false_eq_true, dPick_bool, dIf_bool, mkRes_one]
theorem s1014 (w : Int) (h : Hp) (h1 : 1 ≤ w) (h2 : w ≤ 5040) (h3 : Int.tmod 5040 w = 0) : R fn1014 [.int .i64 w] h = some (.bool true, h) := by
  have g0 : ¬ w = 0 := by omega
  rw [e1014]
  simp only [F1014, bs, dBin_geq, dBin_leq, h1, h2, decide_true, gd_bool, if_true, dPick_bool, dBin_rem, g0, if_false, h3, dBin_eql, mkRes_one]
theorem s1012 (e : Ev) (m : Int) (h : Hp) (hm : 35 ≤ m) (hm2 : m ≤ 1000000) (he : PlOK e) (h1 : 1 ≤ e.ls.length) (h4 : e.ls.length ≤ 40) (hc : chain e.a2 e.ls e.a3) : R fn1012 [.agg (evr e), .int .i64 m] h = some (.int .i64 0, h) := by
  suffices Wp (R fn1012 [.agg (evr e), .int .i64 m] h) (fun p => p = (.int .i64 0, h)) by
    obtain ⟨p, h1, rfl⟩ := this
    exact h1
  obtain ⟨p1, p2, p3, p4, p5, p6, p7⟩ := he
  have g0 : ¬ (e.ls.length : Int) = 0 := by omega
  have g4 : ¬ (40 : Int) < e.ls.length := by omega
  rw [e1012]
  simp only [F1012, pBoxF_agg, bs, Option.bind_assoc, evr, fa31_4, fa31_2, ld28, ld3, lens28 e.hld, dBin_eql, g0, decide_false, dIf_bool, Bool.false_eq_true, if_false, dBin_gtr, g4]
  refine Wp.loop (fun k ds g => g = h ∧ ∃ a b c d f, ∃ at_ : Int, ∃ i : Nat, ds = [a, .int .i64 at_, .int .i64 i, b, c, d, f] ∧ k + i = e.ls.length ∧ 0 ≤ at_ ∧ chain at_ (e.ls.drop i) e.a3)
      (fun x => x.1 = .ext 0 ∧ x.2.2 = h) e.ls.length ⟨rfl, _, _, _, _, _, _, 0, rfl, rfl, p5, hc⟩ ?_ ?_
  · rintro k ds g ⟨rfl, a, b, c, d, f, at_, i, rfl, hk, ha0, hch⟩
    simp only [F1012_L0, nth_zero, nth_succ, bs, Option.bind_assoc, fa31_4, ld28, lens28 e.hld, dBin_lss]
    refine Wp.dif ?_ ?_
    · intro h0
      have h0 : i < e.ls.length := by have : (i : Int) < e.ls.length := by simpa [-Option.bind_some] using h0
                                      omega
      have hg : e.ls[i]? = some e.ls[i] := List.getElem?_eq_getElem h0
      have hw : IntKind.wrap .i64 ((i : Int) + 1) = ((i + 1 : Nat) : Int) := by
        rw [wrap_i64 (by omega) (by omega)]; omega
      rw [List.drop_eq_getElem_cons h0] at hch
      generalize e.ls[i] = x at hg hch
      obtain ⟨c1, c2, c3, c4, c5⟩ := hch
      have hle := chain_le _ _ _ c5
      have hw2 : IntKind.wrap .i64 (at_ + x.len) = at_ + x.len := wrap_i64 (by omega) (by omega)
      have hw3 : IntKind.wrap .i64 (e.a3 - at_) = e.a3 - at_ := wrap_i64 (by omega) (by omega)
      have hw4 : IntKind.wrap .i64 ((e.ls.length : Int) - 1) = (e.ls.length : Int) - 1 := wrap_i64 (by omega) (by omega)
      have q1 : ¬ x.off ≠ at_ := by omega
      have q2 : ¬ x.len < 1 := by omega
      have q3 : ¬ e.a3 - at_ < x.len := by omega
      have q5 : ¬ m < (x.txt.length : Int) := by omega
      have hbx : boxN 3 (.agg (linr x)) = some (.fptr (linr x)) := boxN_agg 3 _ rfl
      simp only [ixs28 e.hld, Int.natCast_nonneg, if_true, Int.toNat_natCast, hg, Option.map_some, bs, linr_ld, hbx]
      have fin : Wp (some (Ex.nrm, [a, .int .i64 (at_ + x.len), .int .i64 ((i + 1 : Nat) : Int), .fptr (linr x), .bool (decide ((i : Int) < e.ls.length)), .bool false, .bool false], g)) (fun r : Out => (r.1 = .nrm ∧ ∃ k', k' < k ∧ r.2.2 = g ∧ ∃ a b c d f, ∃ at_ : Int, ∃ i : Nat, r.2.1 = [a, .int .i64 at_, .int .i64 i, b, c, d, f] ∧ k' + i = e.ls.length ∧ 0 ≤ at_ ∧ chain at_ (e.ls.drop i) e.a3) ∨ (r.1 ≠ .nrm ∧ r.1 = .ext 0 ∧ r.2.2 = g)) :=
        .some (.inl ⟨rfl, k - 1, by omega, rfl, _, _, _, _, _, _, i + 1, rfl, by omega, by omega, c5⟩)
      by_cases hi : (i : Int) = (e.ls.length : Int) - 1
      · rw [List.drop_of_length_le (by omega)] at c5
        have c5 : at_ + x.len = e.a3 := c5
        have hid : decide ((i : Int) = (e.ls.length : Int) - 1) = true := by simpa [-Option.bind_some] using hi
        have q6 : ¬ x.len ≠ e.a3 - at_ := by omega
        simp only [linr, fa78_0, fa78_1, fa78_2, ld3, ld9, len9, bs, dBin_neq, dBin_lss, dBin_gtr, dBin_sub, q1, q2, decide_false, gd_bool, if_true, dPick_bool, Bool.false_eq_true, if_false, fa31_3, fa31_4, ld28, lens28 e.hld, hw3, hw4, q3, dBin_eql, hid, q6, q5, dIf_bool, dBin_add, hw2, hw]
        exact fin
      · simp only [linr, fa78_0, fa78_1, fa78_2, ld3, ld9, len9, bs, dBin_neq, dBin_lss, dBin_gtr, dBin_sub, q1, q2, decide_false, gd_bool, if_true, dPick_bool, Bool.false_eq_true, if_false, fa31_3, fa31_4, ld28, lens28 e.hld, hw3, hw4, q3, dBin_eql, hi, decide_true, gd_und, q5, dIf_bool, dBin_add, hw2, hw]
        exact fin
    · intro h0
      exact .some (.inr ⟨by simp [-Option.bind_some], rfl, rfl⟩)
  · rintro ⟨ex, ds, g⟩ ⟨h1, h2⟩
    simp only at h1 h2
    subst h1; subst h2
    simp only [unblk_self, toEnd_nrm, bs, mkRes_one]
    exact .some rfl
structure EvGood (e : Ev) : Prop where
  pl : PlOK e
  t0 : 0 ≤ e.a5
  t9 : e.a5 ≤ 253402300799999
  w1 : 1 ≤ e.a6
  w2 : e.a6 ≤ 5040
  w3 : Int.tmod 5040 e.a6 = 0
  l1 : 1 ≤ e.ls.length
  l4 : e.ls.length ≤ 40
  ch : chain e.a2 e.ls e.a3
  tr : e.s7.length ≤ 32
  st : e.s8.length ≤ 32
  f3 : e.fs.length ≤ 32
  fn : ∀ p ∈ e.fs, fnameOK p.1 = true ∧ p.1.length ≤ 1000
  fa : Asc e.fs
  fv : ∀ p ∈ e.fs, p.2.length ≤ 2000
theorem fld_f1 (p : Str × Str) : dFieldAddr tab ty109 1 (.fptr (fld p)) = some (.fptr [.str p.2]) := id rfl
theorem s1010 (e : Ev) (h : Hp) (he : EvGood e) : R fn1010 [.agg (evr e)] h = some (.int .i64 0, h) := by
  suffices Wp (R fn1010 [.agg (evr e)] h) (fun p => p = (.int .i64 0, h)) by
    obtain ⟨p, h1, rfl⟩ := this
    exact h1
  have q1 : ¬ e.a5 < 0 := by have := he.t0; omega
  have q2 : ¬ 253402300799999 < e.a5 := by have := he.t9; omega
  have q3 : ¬ (32 : Int) < (e.s7.length : Int) := by have := he.tr; omega
  have q4 : ¬ (32 : Int) < (e.s8.length : Int) := by have := he.st; omega
  obtain ⟨d', hs, hd'⟩ := s1015 e.fs e.fd h e.hfd he.f3 he.fn he.fa
  have h95 := s95 e.fs e.fs d' e.fd h hd' e.hfd e.hl
  have h12 := s1012 e 2000 h (by omega) (by omega) he.pl he.l1 he.l4 he.ch
  simp only [evr] at h12
  rw [e1010]
  simp only [F1010, pBoxF_agg, bs, Option.bind_assoc, evL, s1011 e h he.pl]
  simp only [evr, fa31_5, fa31_6, fa31_7, fa31_8, fa31_9, ld3, ld9, ld29, len9, bs, dBin_neq, dBin_lss, dBin_gtr, q1, q2, q3, q4, decide_false, ne_eq, not_true, gd_bool, if_true, if_false, Bool.false_eq_true, dPick_bool, dIf_bool, s1014 e.a6 h he.w1 he.w2 he.w3, h12, dUn_not, Bool.not_true, hs, dExtract_tup, List.getElem?_cons_zero, List.getElem?_cons_succ, h95, decide_true]
  refine Wp.loop (fun k ds g => g = h ∧ ∃ a b c, ∃ i : Nat, ds = [a, .int .i64 i, b, c] ∧ k + i = e.fs.length)
      (fun x => x.1 = .ext 0 ∧ x.2.2 = h) e.fs.length ⟨rfl, _, _, _, 0, rfl, rfl⟩ ?_ ?_
  · rintro k ds g ⟨rfl, a, b, c, i, rfl, hk⟩
    simp only [F1010_L0, nth_zero, nth_succ, bs, Option.bind_assoc, lens29 hd', dBin_lss]
    refine Wp.dif ?_ ?_
    · intro h0
      have h0 : i < e.fs.length := by have : (i : Int) < e.fs.length := by simpa [-Option.bind_some] using h0
                                      omega
      have hg : e.fs[i]? = some e.fs[i] := List.getElem?_eq_getElem h0
      have hv := he.fv e.fs[i] (List.getElem_mem _)
      have hf3 := he.f3
      have hw : IntKind.wrap .i64 ((i : Int) + 1) = ((i + 1 : Nat) : Int) := by
        rw [wrap_i64 (by omega) (by omega)]; omega
      generalize e.fs[i] = x at hg hv
      have q5 : ¬ (2000 : Int) < (x.2.length : Int) := by omega
      simp only [ixs29 hd', Int.natCast_nonneg, if_true, Int.toNat_natCast, hg, Option.map_some, bs, fld_f1, ld9, len9, dBin_gtr, q5, decide_false, dIf_bool, Bool.false_eq_true, if_false, dBin_add, hw]
      exact .some (.inl ⟨rfl, k - 1, by omega, rfl, _, _, _, i + 1, rfl, by omega⟩)
    · intro h0
      exact .some (.inr ⟨by simp [-Option.bind_some], rfl, rfl⟩)
  · rintro ⟨ex, ds, g⟩ ⟨h1, h2⟩
    simp only at h1 h2
    subst h1; subst h2
    simp only [unblk_self, toEnd_nrm, bs, mkRes_one]
    exact .some rfl
structure SkGood (i : It) : Prop where
  r0 : i.r ≠ []
  r3 : i.r.length ≤ 32
  pl : PlOK i.e
  l1 : 1 ≤ i.e.ls.length
  l4 : i.e.ls.length ≤ 40
  ch : chain i.e.a2 i.e.ls i.e.a3
  tm : i.e.a5 = 0
  w0 : i.e.a6 = 0
  tr : i.e.s7 = []
  st : i.e.s8 = []
  fs : i.e.fs = []
  tx : ∀ l ∈ i.e.ls, l.txt = []
theorem s1004 (i : It) (h : Hp) (hi : (i.r = [] ∧ EvGood i.e) ∨ SkGood i) : R fn1004 [.agg (itr i)] h = some (.int .i64 0, h) := by
  suffices Wp (R fn1004 [.agg (itr i)] h) (fun p => p = (.int .i64 0, h)) by
    obtain ⟨p, h1, rfl⟩ := this
    exact h1
  rw [e1004]
  simp only [F1004, pBoxF_agg, bs, Option.bind_assoc, itF0, itF1, itL0, evL, dBin_seql]
  rcases hi with ⟨hr, he⟩ | he
  · simp only [hr, beq_self_eq_true, dIf_bool, if_true, s1010 i.e h he, bs, mkRes_one]
    exact .some rfl
  · have q0 : (i.r == []) = false := by simpa [-Option.bind_some] using he.r0
    have q1 : ¬ (32 : Int) < (i.r.length : Int) := by have := he.r3; omega
    have hbx : boxN 10 (.agg (evr i.e)) = some (.fptr (evr i.e)) := boxN_agg 10 _ rfl
    have hfl : (i.e.fs.length : Int) = 0 := by rw [he.fs]; rfl
    simp only [q0, dIf_bool, Bool.false_eq_true, if_false, len9, bs, dBin_gtr, q1, decide_false, hbx, evL, s1011 i.e h he.pl, s1012 i.e 20000 h (by omega) (by omega) he.pl he.l1 he.l4 he.ch, dBin_neq, ne_eq, not_true, gd_bool, dPick_bool]
    simp only [evr, fa31_5, fa31_6, fa31_7, fa31_8, fa31_9, ld3, ld9, ld29, len9, bs, dBin_neq, dBin_sneq, he.tm, he.w0, he.tr, he.st, lens29 i.e.hfd, hfl, ne_eq, not_true, decide_false, gd_bool, if_true, if_false, Bool.false_eq_true, dPick_bool, dIf_bool, beq_self_eq_true, Bool.not_true]
    refine Wp.loop (fun k ds g => g = h ∧ ∃ a b c, ∃ n : Nat, ds = [a, .int .i64 n, b, c] ∧ k + n = i.e.ls.length)
      (fun x => x.1 = .ext 0 ∧ x.2.2 = h) i.e.ls.length ⟨rfl, _, _, _, 0, rfl, rfl⟩ ?_ ?_
    · rintro k ds g ⟨rfl, a, b, c, n, rfl, hk⟩
      simp only [F1004_L0, nth_zero, nth_succ, bs, Option.bind_assoc, fa31_4, ld28, lens28 i.e.hld, dBin_lss]
      refine Wp.dif ?_ ?_
      · intro h0
        have h0 : n < i.e.ls.length := by have : (n : Int) < i.e.ls.length := by simpa [-Option.bind_some] using h0
                                          omega
        have hg : i.e.ls[n]? = some i.e.ls[n] := List.getElem?_eq_getElem h0
        have hv := he.tx i.e.ls[n] (List.getElem_mem _)
        have hf3 := he.l4
        have hw : IntKind.wrap .i64 ((n : Int) + 1) = ((n + 1 : Nat) : Int) := by
          rw [wrap_i64 (by omega) (by omega)]; omega
        generalize i.e.ls[n] = x at hg hv
        simp only [ixs28 i.e.hld, Int.natCast_nonneg, if_true, Int.toNat_natCast, hg, Option.map_some, bs, linr, fa78_2, ld9, hv, dBin_sneq, beq_self_eq_true, Bool.not_true, dIf_bool, Bool.false_eq_true, if_false, dBin_add, hw]
        exact .some (.inl ⟨rfl, k - 1, by omega, rfl, _, _, _, n + 1, rfl, by omega⟩)
      · intro h0
        exact .some (.inr ⟨by simp [-Option.bind_some], rfl, rfl⟩)
    · rintro ⟨ex, ds, g⟩ ⟨h1, h2⟩
      simp only at h1 h2
      subst h1; subst h2
      simp only [unblk_self, toEnd_nrm, bs, mkRes_one]
      exact .some rfl
theorem l1006 (l : List Lin) (d : D) (fn : D) (pr : Lin → Bool) (h : Hp) (hd : SlOf 3 linr l d) (hl : l.length ≤ 9223372036854775807) (hf : ∀ x, callV R fn [.agg (linr x)] h = some (.bool (pr x), h)) {β : Type} (K : Out → Option β) (X : Int → Option β)
   (hX : ∀ v r, K (.ret, .int .i64 v :: r, h) = X v) (hY : ∀ r, K (.ext 0, r, h) = X (-1)) : ∀ (suf pre : List Lin), l = pre ++ suf → ∀ a b e f,
   (loopW (F1006_L0 d fn (.int .i64 l.length)) [a, b, .int .i64 pre.length, e, f] h).bind K = X (idx pr pre.length suf) := by
  intro suf
  induction suf with
  | nil =>
    rintro pre rfl a b e f
    rw [loopW_eq]
    simp [-Option.bind_some, F1006_L0, hY, idx]
  | cons p suf ih =>
    rintro pre rfl a b e f
    have hw : IntKind.wrap .i64 ((pre.length : Int) + 1) = (pre ++ [p]).length := by
      rw [wrap_i64 (by omega) (by simp [-Option.bind_some] at hl; omega)]; simp [-Option.bind_some]
    have hlt : (pre.length : Int) < (pre ++ p :: suf).length := by simp [-Option.bind_some]; omega
    rw [loopW_eq]
    generalize hL : pre ++ p :: suf = L at *
    have hg : L[pre.length]? = some p := by rw [← hL]; exact get_mid _ _ _
    by_cases hp : pr p = true
    · simp [-Option.bind_some, F1006_L0, ixs28 hd, hlt, hg, linr_ld, hf, hp, hX, idx]
    · have := ih (pre ++ [p]) (by simp [-Option.bind_some, ← hL]) a (.int .i64 pre.length) (.bool true) (.bool (pr p))
      simp only [← hw] at this
      simp [-Option.bind_some, F1006_L0, ixs28 hd, hlt, hg, linr_ld, hf, hp, idx]
      simp [-Option.bind_some, hp] at this
      exact this
theorem s1006 (l : List Lin) (d : D) (fn : D) (pr : Lin → Bool) (h : Hp) (hd : SlOf 3 linr l d) (hl : l.length ≤ 9223372036854775807) (hf : ∀ x, callV R fn [.agg (linr x)] h = some (.bool (pr x), h)) :
   R fn1006 [d, fn] h = some (.int .i64 (idx pr 0 l), h) := by
  rw [e1006]
  simp only [F1006, bs, lens28 hd, Option.bind_assoc]
  rw [show (0 : Int) = (([] : List Lin).length : Int) from rfl, l1006 l d fn pr h hd hl hf _ (fun v => some (.int .i64 v, h)) (fun v r => by simp [-Option.bind_some]) (fun r => by simp [-Option.bind_some]) l [] rfl]
  rfl
theorem app_full {T : Tab} {t e : Nat} {i j : TI} (ht : T t = Option.some i) (hi : i.td = .sl e) (he : T e = Option.some j) (hz : 0 < j.sz) {h : Hp} {ys : List (List D)} {y : D} (hy : dRowsOf h j.sz y = Option.some ys) (hl : lim ys.length j.by_ = true) :
    ∃ x' h', dAppend T h t t (.sl j.sz true []) y = Option.some (x', h') ∧ h.length ≤ h'.length ∧ (∀ q, q < h.length → h'[q]? = h[q]?) ∧ ((x' = .sl j.sz true [] ∧ ys = []) ∨ Own h' h.length e j.sz ys x') := by
  have hz' : Nat.blt 0 j.sz = true := Nat.ble_eq_true_of_le hz
  have hs : dSrc h i j y = Option.some ys := by simp [-Option.bind_some, dSrc, hi, hy]
  unfold dAppend
  simp only [ht, hi, he, hz', hs]
  cases ys with
  | nil => exact ⟨_, _, rfl, Nat.le_refl _, fun _ _ => rfl, .inl ⟨rfl, rfl⟩⟩
  | cons y1 yr =>
    simp only [List.length_nil, Nat.zero_add, hl, and_self, if_true, List.nil_append, true_and]
    exact ⟨_, _, rfl, by simp [-Option.bind_some, dNew], fun q hq => by simp only [dNew]; rw [List.getElem?_append_left hq], .inr (.inr ⟨h.length, Nat.le_refl _, rfl, by simp [-Option.bind_some, dNew]⟩)⟩
def inr (n : Int) : List D := [.int .i64 n]
theorem asc_of {l : List (Str × Str)} (h : (l.map (·.1)).Sublist lt98_9) : Asc l := by
  have hp : lt98_9.Pairwise fun a b => Op.bytesLess a b = true ∧ a ≠ b := by decide
  have := hp.sublist h
  rw [List.pairwise_iff_getElem] at this
  intro i p q h1 h2
  obtain ⟨g1, h1⟩ := List.getElem?_eq_some_iff.1 h1
  obtain ⟨g2, h2⟩ := List.getElem?_eq_some_iff.1 h2
  have := this i (i + 1) (by simpa [-Option.bind_some] using g1) (by simpa [-Option.bind_some] using g2) (by omega)
  simpa [-Option.bind_some, h1, h2] using this
theorem fn_of {l : List (Str × Str)} (h : (l.map (·.1)).Sublist lt98_9) : ∀ p ∈ l, fnameOK p.1 = true ∧ p.1.length ≤ 1000 := by
  intro p hp
  have hm : p.1 ∈ lt98_9 := h.subset (List.mem_map.2 ⟨p, hp, rfl⟩)
  exact (show ∀ s ∈ lt98_9, fnameOK s = true ∧ s.length ≤ 1000 by decide) _ hm
theorem new_get (g : Hp) (T z : Nat) (rows : List (List D)) : (dNew g T z rows)[g.length]? = some (.row T z rows) := by simp [-Option.bind_some, dNew]
theorem new_old (g : Hp) (T z : Nat) (rows : List (List D)) {q : Nat} (hq : q < g.length) : (dNew g T z rows)[q]? = g[q]? := by
  simp only [dNew]; rw [List.getElem?_append_left hq]
theorem new_len (g : Hp) (T z : Nat) (rows : List (List D)) : (dNew g T z rows).length = g.length + 1 := by simp [-Option.bind_some, dNew]
end Go.Proofs.YtjhmicmbbgkhpaaDoor
