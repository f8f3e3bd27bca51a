/- Laws, on plain data, about functions that the statement reaches. -/
import Derived.Test.YtdoppnhopjdhmaaL1
set_option linter.unusedSimpArgs false
set_option linter.unusedVariables false
set_option linter.unnecessarySimpa false
set_option maxRecDepth 100000
namespace Go.Proofs.Ytdoppnhopjdhmaa
open Go.Eng Go.Pi
theorem ldob {h : Hp} {q T z : Nat} {cs : List D} (hq : h[q]? = some (.row T z [cs])) (hl : cs.length = 10) : dLoad tab h ty31 (.ptr q 0 0) = some (.agg cs) := by
  rw [ldp31, row_of hq]
  simp [-Option.bind_some, takeN, hl]
  exact List.take_of_length_le (by omega)
theorem ldob11 {h : Hp} {q T z : Nat} {cs : List D} (hq : h[q]? = some (.row T z [cs])) (hl : cs.length = 11) : dLoad tab h ty74 (.ptr q 0 0) = some (.agg cs) := by
  rw [ldp74, row_of hq]
  simp [-Option.bind_some, takeN, hl]
  exact List.take_of_length_le (by omega)
theorem lt98_4_ne : ∀ s ∈ lt98_4, s ≠ [] := by decide
theorem d84 {h : Hp} {o : Nat} (hc : CD h o) (host file fr : Int) (hf0 : 0 ≤ fr) (hf1 : fr ≤ 1000000000) : ∃ i h', R fn84 [.ptr o 0 0, .int .i64 host, .int .i64 file, .int .i64 fr] h = some (.agg (itr i), h') ∧ CD h' o ∧ Same o h h' ∧ ItOK host file fr i := by
  suffices Wp (R fn84 [.ptr o 0 0, .int .i64 host, .int .i64 file, .int .i64 fr] h) (fun p => ∃ i, p.1 = .agg (itr i) ∧ CD p.2 o ∧ Same o h p.2 ∧ ItOK host file fr i) by
    obtain ⟨⟨x, h'⟩, h1, i, rfl, h2⟩ := this
    exact ⟨i, h', h1, h2⟩
  have ho := hc.lt
  rw [e84]
  simp only [F84, bs, Option.bind_assoc, bd31_0_1_2]
  generalize hg0 : dNew (dNew h ty74 11 [[.str [], .int .i64 0, .int .i64 0, .int .i64 0, .int .i64 0, .nils, .int .i64 0, .int .i64 0, .str [], .str [], .nils]]) ty31 10 [[.int .i64 0, .int .i64 0, .int .i64 0, .int .i64 0, .nils, .int .i64 0, .int .i64 0, .str [], .str [], .nils]] = g0
  have S0 : St h o g0 := (St.refl hc).app (by simp [-Option.bind_some, ← hg0, dNew]) (fun q hq => by simp only [← hg0, dNew]; rw [List.getElem?_append_left (by simp [-Option.bind_some]; omega), List.getElem?_append_left hq])
  have p8 : g0[h.length]? = some (.row ty74 11 [[.str [], .int .i64 0, .int .i64 0, .int .i64 0, .int .i64 0, .nils, .int .i64 0, .int .i64 0, .str [], .str [], .nils]]) := by
    simp only [← hg0, dNew]; rw [List.getElem?_append_left (by simp [-Option.bind_some]), List.getElem?_append_right (Nat.le_refl _)]; simp [-Option.bind_some]
  have p9 : g0[h.length + 1]? = some (.row ty31 10 [[.int .i64 0, .int .i64 0, .int .i64 0, .int .i64 0, .nils, .int .i64 0, .int .i64 0, .str [], .str [], .nils]]) := by
    simp only [← hg0, dNew]; rw [List.getElem?_append_right (by simp [-Option.bind_some])]; simp [-Option.bind_some]
  have hl9 : (dNew h ty74 11 [[.str [], .int .i64 0, .int .i64 0, .int .i64 0, .int .i64 0, .nils, .int .i64 0, .int .i64 0, .str [], .str [], .nils]]).length = h.length + 1 := by simp [-Option.bind_some, dNew]
  rw [hl9]
  clear hl9 hg0
  have sm : ∀ {a b : Hp}, Same (h.length + 1) a b → Grow h.length o a b := fun s => ⟨Nat.le_of_eq s.1.symm, fun q hq _ => s.2 q (by omega)⟩
  refine wst31 p9 (by rfl) (by rfl) (by simp [-Option.bind_some]) (by rfl) fun g1 q9 sg => ?_
  replace q9 : g1[h.length + 1]? = some (.row ty31 10 [[.int .i64 host, .int .i64 file, .int .i64 fr, .int .i64 0, .nils, .int .i64 0, .int .i64 0, .str [], .str [], .nils]]) := q9
  replace p8 := (sg.2 h.length (by omega)).trans p8
  have S1 : St h o g1 := S0.app (Nat.le_of_eq sg.1.symm) fun q hq => sg.2 q (by omega)
  clear p9 sg S0
  obtain ⟨v, h1, e1, c1, s1, v0, v1⟩ := next_b S1.cd 3 (by omega) (by omega)
  replace q9 := (s1.2 (h.length + 1) (by omega)).trans q9
  replace p8 := (s1.2 h.length (by omega)).trans p8
  have S2 := S1.next c1 s1
  refine Wp.step e1 ?_
  simp only [dBin_add, bs]
  rw [wrap_i64 (n := 1 + v) (by omega) (by omega)]
  refine Wp.loop (fun k ds g => ∃ po : Int, ∃ a b c x, ∃ ls : List Lin, ds = [.int .i64 po, .int .i64 k, a, b, c] ∧ St h o g ∧ g[h.length]? = some (.row ty74 11 [[.str [], .int .i64 0, .int .i64 0, .int .i64 0, .int .i64 0, .nils, .int .i64 0, .int .i64 0, .str [], .str [], .nils]])
      ∧ g[h.length + 1]? = some (.row ty31 10 [[.int .i64 host, .int .i64 file, .int .i64 fr, .int .i64 0, x, .int .i64 0, .int .i64 0, .str [], .str [], .nils]]) ∧ Own g (h.length + 2) ty78 3 (ls.map linr) x ∧ chain fr ls po ∧ ls.length + k = (1 + v).toNat ∧ ∀ l ∈ ls, l.len ≤ l.txt.length + 2)
    (fun r => r.1 = .ext 0 ∧ ∃ po : Int, ∃ a b c d x, ∃ ls : List Lin, r.2.1 = [.int .i64 po, a, b, c, d] ∧ St h o r.2.2 ∧ r.2.2[h.length]? = some (.row ty74 11 [[.str [], .int .i64 0, .int .i64 0, .int .i64 0, .int .i64 0, .nils, .int .i64 0, .int .i64 0, .str [], .str [], .nils]])
      ∧ r.2.2[h.length + 1]? = some (.row ty31 10 [[.int .i64 host, .int .i64 file, .int .i64 fr, .int .i64 0, x, .int .i64 0, .int .i64 0, .str [], .str [], .nils]]) ∧ Own r.2.2 (h.length + 2) ty78 3 (ls.map linr) x ∧ chain fr ls po ∧ 1 ≤ ls.length ∧ ls.length ≤ 3 ∧ ∀ l ∈ ls, l.len ≤ l.txt.length + 2)
    (1 + v).toNat ⟨fr, .any, .any, .any, .nils, [], by rw [Int.toNat_of_nonneg (by omega)], S2, p8, q9, Own.nils _ _ _ _, rfl, by simp [-Option.bind_some], by simp [-Option.bind_some]⟩ ?_ ?_
  · clear e1 S1 S2 q9 p8 c1 s1
    rintro k ds g ⟨po, a, b, c, x, ls, rfl, S, p8, p9, ow, hch, hk, htx⟩
    simp only [F84_L0, nth_zero, nth_succ, bs, dBin_gtr]
    refine Wp.dif ?_ ?_
    · intro h0
      have h0 : 0 < (k : Int) := by simpa [-Option.bind_some] using h0
      obtain ⟨t, g1, e1, c1, s1, ht⟩ := d96 S.cd
      have S1 := S.next c1 s1
      refine Wp.step e1 ?_
      simp only [len9, dBin_add, bs]
      obtain ⟨u, g2, e2, c2, s2, u0, u1⟩ := next_b c1 2 (by omega) (by omega)
      have S2 := S1.next c2 s2
      have s12 := s1.trans s2
      replace p9 := (s12.2 (h.length + 1) (by omega)).trans p9
      replace p8 := (s12.2 h.length (by omega)).trans p8
      replace ow := ow.same s12 (by omega)
      refine Wp.step e2 ?_
      have w1 := wrap_i64 (n := (t.length : Int) + 1) (by omega) (by omega)
      have w2 := wrap_i64 (n := (t.length : Int) + 1 + u) (by omega) (by omega)
      simp only [bs, Option.bind_assoc, dBin_add, w1, w2, fap31_4, ldp28, row_of p9, List.getElem?_cons_zero, bs, Nat.zero_add, List.drop_succ_cons, List.drop_zero, List.head?_cons, bd78_0_1_2, bs28_1]
      have hlt : h.length + 1 < g2.length := (List.getElem?_eq_some_iff.1 p9).1
      have hcl := chain_le _ _ _ hch
      refine wap28 (by omega) ow (rowsOf_sl _ _ _ _) (by simp [-Option.bind_some]; omega) fun x' g3 ow3 len bel keep _ => ?_
      have S3 := S2.app len fun q hq => bel q (by omega)
      replace p9 := (bel (h.length + 1) (by omega)).trans p9
      replace p8 := (bel h.length (by omega)).trans p8
      simp only [bs]
      refine wst28 p9 (by rfl) (by cases x' <;> first | rfl | (have := own_one ow3; simp [-Option.bind_some, D.one] at this)) (by simp [-Option.bind_some]) (by cases x' <;> first | rfl | (have := own_one ow3; simp [-Option.bind_some, D.one] at this)) fun g4 p9' sg => ?_
      have hc1 : cells1 x' = [x'] := by cases x' <;> first | rfl | (have := own_one ow3; simp [-Option.bind_some, D.one] at this)
      rw [hc1] at p9'
      replace p9 : g4[h.length + 1]? = some (.row ty31 10 [[.int .i64 host, .int .i64 file, .int .i64 fr, .int .i64 0, x', .int .i64 0, .int .i64 0, .str [], .str [], .nils]]) := p9'
      replace p8 := (sg.2 h.length (by omega)).trans p8
      have S4 : St h o g4 := S3.app (Nat.le_of_eq sg.1.symm) fun q hq => sg.2 q (by omega)
      have ow4 := ow3.keep (h' := g4) fun q hq _ => sg.2 q (by omega)
      have w3 := wrap_i64 (n := po + ((t.length : Int) + 1 + u)) (by omega) (by omega)
      have hk1 : IntKind.wrap .i64 ((k : Int) - 1) = ((k - 1 : Nat) : Int) := by
        rw [wrap_i64 (by omega) (by omega)]; omega
      simp only [dBin_add, bs, dBin_sub, w3, hk1]
      refine .some (.inl ⟨rfl, k - 1, by omega, _, _, _, _, x', ls ++ [⟨po, (t.length : Int) + 1 + u, t⟩], rfl, S4, p8, p9, by rw [List.map_append]; exact ow4, chain_snoc _ _ _ _ hch rfl (by simp [-Option.bind_some]; omega) (by simp [-Option.bind_some]; omega) (by simp [-Option.bind_some]; omega), by simp [-Option.bind_some]; omega, ?_⟩)
      intro l hl
      rcases List.mem_append.1 hl with hl | hl
      · exact htx l hl
      · simp [-Option.bind_some] at hl; subst hl; simp [-Option.bind_some]; omega
    · intro h0
      have h0 : ¬ 0 < (k : Int) := by simpa [-Option.bind_some] using h0
      exact .some (.inr ⟨by simp [-Option.bind_some], rfl, _, _, _, _, _, x, ls, rfl, S, p8, p9, ow, hch, by omega, by omega, htx⟩)
  · clear e1 S1 S2 q9 p8 c1 s1
    rintro ⟨ex, ds, g⟩ ⟨rfl, po, a, b, c, d, x, ls, rfl, S, p8, p9, ow, hch, hl1, hl3, htx⟩
    simp only [unblk_self, toEnd_nrm, nth_zero, bs, fap31_3]
    refine wst3 p9 (by rfl) (by rfl) (by simp [-Option.bind_some]) (by rfl) fun g1 p9' sg => ?_
    replace p9 : g1[h.length + 1]? = some (.row ty31 10 [[.int .i64 host, .int .i64 file, .int .i64 fr, .int .i64 po, x, .int .i64 0, .int .i64 0, .str [], .str [], .nils]]) := p9'
    replace p8 := (sg.2 h.length (by omega)).trans p8
    have S1 : St h o g1 := S.app (Nat.le_of_eq sg.1.symm) fun q hq => sg.2 q (by omega)
    have ow1 := ow.keep (h' := g1) fun q hq _ => sg.2 q (by omega)
    clear S sg p9' ow
    obtain ⟨v, g2, e2, c2, s2, v0, v1⟩ := next_b S1.cd 5 (by omega) (by omega)
    replace p9 := (s2.2 (h.length + 1) (by omega)).trans p9
    replace p8 := (s2.2 h.length (by omega)).trans p8
    have S2 := S1.next c2 s2
    have ow2 := ow1.same s2 (by omega)
    refine Wp.step e2 ?_
    simp only [dBin_eql, bs]
    refine Wp.dif ?_ ?_
    · intro _
      refine Wp.loop (fun k ds g => ∃ b, ∃ i : Nat, ds = [.int .i64 i, b] ∧ St h o g ∧ g[h.length]? = some (.row ty74 11 [[.str [], .int .i64 0, .int .i64 0, .int .i64 0, .int .i64 0, .nils, .int .i64 0, .int .i64 0, .str [], .str [], .nils]])
        ∧ g[h.length + 1]? = some (.row ty31 10 [[.int .i64 host, .int .i64 file, .int .i64 fr, .int .i64 po, x, .int .i64 0, .int .i64 0, .str [], .str [], .nils]]) ∧ Own g (h.length + 2) ty78 3 (((ls.take i).map blank ++ ls.drop i).map linr) x ∧ k + i = ls.length)
        (fun r => r.1 = .ext 2 ∧ ∃ a b, r.2.1 = [a, b] ∧ St h o r.2.2 ∧ r.2.2[h.length]? = some (.row ty74 11 [[.str [], .int .i64 0, .int .i64 0, .int .i64 0, .int .i64 0, .nils, .int .i64 0, .int .i64 0, .str [], .str [], .nils]])
        ∧ r.2.2[h.length + 1]? = some (.row ty31 10 [[.int .i64 host, .int .i64 file, .int .i64 fr, .int .i64 po, x, .int .i64 0, .int .i64 0, .str [], .str [], .nils]]) ∧ Own r.2.2 (h.length + 2) ty78 3 ((ls.map blank).map linr) x) ls.length ⟨.any, 0, rfl, S2, p8, p9, by simpa [-Option.bind_some] using ow2, rfl⟩ ?_ ?_
      · clear S1 ow1 e2 c2 s2 S2 p8 p9 ow2
        rintro k ds g ⟨b, i, rfl, S, p8, p9, ow, hk⟩
        have hlen : (((ls.take i).map blank ++ ls.drop i).map linr).length = ls.length := by simp [-Option.bind_some]; omega
        have hlo := leno28 ow
        rw [hlen] at hlo
        simp only [F84_L1, nth_zero, nth_succ, bs, Option.bind_assoc, fap31_4, ldp28, row_of p9, List.getElem?_cons_zero, Nat.zero_add, List.drop_succ_cons, List.drop_zero, List.head?_cons, hlo, dBin_lss]
        refine Wp.dif ?_ ?_
        · intro h0
          have hi : i < ls.length := by have : (i : Int) < ls.length := by simpa [-Option.bind_some] using h0
                                        omega
          obtain ⟨ob, hob, rfl, hgo⟩ := own_ix ow (i := i) (by rw [hlen]; exact hi)
          rw [hlen] at *
          have hil : (i : Int) < ls.length := by omega
          have hw : IntKind.wrap .i64 ((i : Int) + 1) = ((i + 1 : Nat) : Int) := by
            rw [wrap_i64 (by omega) (by omega)]; omega
          simp only [ixm28, Int.natCast_nonneg, hil, and_self, if_true, Nat.zero_add, Int.toNat_natCast, bs, fap78_2]
          refine wst9 hgo (get_blank ls i hi) (by rfl) (by simp [-Option.bind_some, linr]) (by rfl) fun g1 hg1 sg => ?_
          have hset : (((ls.take i).map blank ++ ls.drop i).map linr).set i (spl (linr ls[i]) 2 (cells1 (.str []))) = ((ls.take (i + 1)).map blank ++ ls.drop (i + 1)).map linr := set_blank ls i hi
          rw [hset] at hg1
          simp only [dBin_add, bs, hw]
          refine .some (.inl ⟨rfl, k - 1, by omega, _, i + 1, rfl, S.app (Nat.le_of_eq sg.1.symm) fun q hq => sg.2 q (by omega), (sg.2 _ (by omega)).trans p8, (sg.2 _ (by omega)).trans p9, ?_, by omega⟩)
          refine .inr ⟨ob, hob, ?_, hg1⟩
          congr 1
          simp [-Option.bind_some]; omega
        · intro h0
          have hi : i = ls.length := by have : ¬ (i : Int) < ls.length := by simpa [-Option.bind_some] using h0
                                        omega
          subst hi
          refine .some (.inr ⟨by simp [-Option.bind_some], rfl, _, _, rfl, S, p8, p9, by simpa [-Option.bind_some] using ow⟩)
      · clear S1 ow1 e2 c2 s2 S2 p8 p9 ow2
        rintro ⟨ex, ds, g⟩ ⟨rfl, a, b, rfl, S, p8, p9, ow⟩
        simp only [unblk_self, toEnd_nrm, nth_zero, bs, lt98_4_ok]
        obtain ⟨v, g1, e1, c1, s1, v0, v1⟩ := next_b S.cd 3 (by omega) (by omega)
        obtain ⟨s, hs, hg⟩ := pick_of lt98_4 v v0 v1
        have p9' := (s1.2 (h.length + 1) (by omega)).trans p9
        replace p8 := (s1.2 h.length (by omega)).trans p8
        have S1 := S.next c1 s1
        have ow1 := ow.same s1 (by omega)
        refine Wp.step e1 ?_
        simp only [ix98, v0, if_true, List.getElem?_map, hg, Option.map_some, bs, ld9, ldob p9' rfl, ldob p9 rfl, bd74_0_1, chk_true]
        refine wst74 p8 (by rfl) (by rfl) (by simp [-Option.bind_some]) (by rfl) fun g2 q8 sg => ?_
        replace q8 : g2[h.length]? = some (.row ty74 11 [[.str s, .int .i64 host, .int .i64 file, .int .i64 fr, .int .i64 po, x, .int .i64 0, .int .i64 0, .str [], .str [], .nils]]) := q8
        have S2 : St h o g2 := S1.app (Nat.le_of_eq sg.1.symm) fun q hq => sg.2 q (by omega)
        have ow2 := ow1.keep (h' := g2) fun q hq _ => sg.2 q (by omega)
        simp only [ldob11 q8 rfl, bs, mkRes_one]
        have hsl := own_sl (n0 := h.length) (n := 2) ow2 (by omega) (fun a _ => linr_frz _ g2 _ a)
        have hsl2 := lt98_4_ne s hs
        obtain ⟨h', hsc, hcd, hsm⟩ := S2.scope (d := .agg [.str s, .int .i64 host, .int .i64 file, .int .i64 fr, .int .i64 po, x, .int .i64 0, .int .i64 0, .str [], .str [], .nils]) (d' := .agg (itr ⟨s, ⟨host, file, fr, po, ls.map blank, frz h.length g2 3 x, 0, 0, [], [], [], .nils, SlOf.nils _ _, by simp [-Option.bind_some], hsl, by simp [-Option.bind_some]; omega⟩⟩)) (by simp [-Option.bind_some, itr, evr]) (itr_ok _ _)
        rw [hsc]
        refine .some ⟨_, rfl, hcd, hsm, ⟨rfl, rfl, rfl, chain_blank _ _ _ hch, by simpa [-Option.bind_some] using hl1, by simpa [-Option.bind_some] using hl3, fun h0 => absurd h0 hsl2, fun h0 => absurd h0 hsl2, fun _ => ⟨hs, rfl, rfl, rfl, rfl, rfl, ?_⟩⟩⟩
        intro l hl
        simp [-Option.bind_some] at hl
        obtain ⟨l0, _, rfl⟩ := hl
        rfl
    · intro _
      clear e2 v0 v1
      obtain ⟨tm, g3, e3, c3, s3, t0, t1⟩ := d35 c2
      refine Wp.step e3 ?_
      simp only [bs]
      obtain ⟨wt, g4, e4, c4, s4, w0, w1, w2⟩ := d97 c3
      refine Wp.step e4 ?_
      have s3x4 := s3.trans s4
      replace p9 := (s3x4.2 (h.length + 1) (by omega)).trans p9
      replace p8 := (s3x4.2 h.length (by omega)).trans p8
      have S4 := S2.next c4 s3x4
      have ow4 := ow2.same s3x4 (by omega)
      clear e3 e4 S1 S2 c3 s3 c2 s2 s4 s3x4 ow1 ow2 c4
      simp only [bs, fap31_5, fap31_6, fap31_7, fap31_8, fap31_9, Nat.zero_add]
      refine wst3 p9 (by rfl) (by rfl) (by simp [-Option.bind_some]) (by rfl) fun g5 p9' sg => ?_
      refine wst3 p9' (by rfl) (by rfl) (by simp [-Option.bind_some, spl, cells1]) (by rfl) fun g6 p9'' sg2 => ?_
      replace sg := sg.trans sg2
      replace p9 : g6[h.length + 1]? = some (.row ty31 10 [[.int .i64 host, .int .i64 file, .int .i64 fr, .int .i64 po, x, .int .i64 tm, .int .i64 wt, .str [], .str [], .nils]]) := p9''
      replace p8 := (sg.2 h.length (by omega)).trans p8
      have S6 : St h o g6 := S4.app (Nat.le_of_eq sg.1.symm) fun q hq => sg.2 q (by omega)
      have ow6 := ow4.keep (h' := g6) fun q hq _ => sg.2 q (by omega)
      clear p9' p9'' sg sg2 S4 ow4
      simp only [lt98_5_ok, bs]
      obtain ⟨v, g7, e7, c7, s7, v0, v1⟩ := next_b S6.cd 4 (by omega) (by omega)
      obtain ⟨tr, htr, hg⟩ := pick_of lt98_5 v v0 v1
      refine Wp.step e7 ?_
      simp only [ix98, v0, if_true, List.getElem?_map, hg, Option.map_some, bs, ld9, lt98_6_ok]
      obtain ⟨v, g8, e8, c8, s8, v0, v1⟩ := next_b c7 2 (by omega) (by omega)
      obtain ⟨sm', hsm, hg⟩ := pick_of lt98_6 v v0 v1
      refine Wp.step e8 ?_
      simp only [ix98, v0, if_true, List.getElem?_map, hg, Option.map_some, bs, ld9, chk_true]
      have s7x8 := s7.trans s8
      replace p9 := (s7x8.2 (h.length + 1) (by omega)).trans p9
      replace p8 := (s7x8.2 h.length (by omega)).trans p8
      have S8 := S6.next c8 s7x8
      have ow8 := ow6.same s7x8 (by omega)
      clear e7 e8 S6 c7 s7 s8 s7x8 ow6 c8
      refine wst9 p9 (by rfl) (by rfl) (by simp [-Option.bind_some]) (by rfl) fun g9 p9' sg => ?_
      refine wst9 p9' (by rfl) (by rfl) (by simp [-Option.bind_some, spl, cells1]) (by rfl) fun g10 p9'' sg2 => ?_
      replace sg := sg.trans sg2
      replace p9 : g10[h.length + 1]? = some (.row ty31 10 [[.int .i64 host, .int .i64 file, .int .i64 fr, .int .i64 po, x, .int .i64 tm, .int .i64 wt, .str tr, .str sm', .nils]]) := p9''
      replace p8 := (sg.2 h.length (by omega)).trans p8
      have S10 : St h o g10 := S8.app (Nat.le_of_eq sg.1.symm) fun q hq => sg.2 q (by omega)
      have ow10 := ow8.keep (h' := g10) fun q hq _ => sg.2 q (by omega)
      clear p9' p9'' sg sg2 S8 ow8
      obtain ⟨y, g11, e11, c11, s11, fs, hy, hfs⟩ := d98 S10.cd
      refine Wp.step e11 ?_
      replace p9 := (s11.2 (h.length + 1) (by omega)).trans p9
      replace p8 := (s11.2 h.length (by omega)).trans p8
      have S11 := S10.next c11 s11
      have ow11 := ow10.same s11 (by omega)
      have oc := one_cells (slof_one hy)
      refine wst29 p9 (by rfl) (by rw [oc.1]; rfl) (by simp [-Option.bind_some]) oc.2 fun g12 p9' sg => ?_
      rw [oc.1] at p9'
      replace p9 : g12[h.length + 1]? = some (.row ty31 10 [[.int .i64 host, .int .i64 file, .int .i64 fr, .int .i64 po, x, .int .i64 tm, .int .i64 wt, .str tr, .str sm', y]]) := p9'
      replace p8 := (sg.2 h.length (by omega)).trans p8
      have S12 : St h o g12 := S11.app (Nat.le_of_eq sg.1.symm) fun q hq => sg.2 q (by omega)
      have ow12 := ow11.keep (h' := g12) fun q hq _ => sg.2 q (by omega)
      clear e11 S11 ow11 S10 ow10 s11 c11 sg p9'
      simp only [ldob p9 rfl, bs, bd74_1]
      refine wst74 p8 (by rfl) (by rfl) (by simp [-Option.bind_some]) (by rfl) fun g2 q8 sg => ?_
      replace q8 : g2[h.length]? = some (.row ty74 11 [[.str [], .int .i64 host, .int .i64 file, .int .i64 fr, .int .i64 po, x, .int .i64 tm, .int .i64 wt, .str tr, .str sm', y]]) := q8
      have S2 : St h o g2 := S12.app (Nat.le_of_eq sg.1.symm) fun q hq => sg.2 q (by omega)
      have ow2 := ow12.keep (h' := g2) fun q hq _ => sg.2 q (by omega)
      simp only [ldob11 q8 rfl, bs, mkRes_one]
      have hsl := own_sl (n0 := h.length) (n := 2) ow2 (by omega) (fun a _ => linr_frz _ g2 _ a)
      have hfl : fs.length ≤ 4 := by
        have := hfs.1.length_le
        simpa [-Option.bind_some] using this
      have hfy : frz h.length g2 3 y = y := slof_frz hy (fun a _ => fld_frz _ g2 _ a)
      obtain ⟨h', hsc, hcd, hsm2⟩ := S2.scope (d := .agg [.str [], .int .i64 host, .int .i64 file, .int .i64 fr, .int .i64 po, x, .int .i64 tm, .int .i64 wt, .str tr, .str sm', y]) (d' := .agg (itr ⟨[], ⟨host, file, fr, po, ls, frz h.length g2 3 x, tm, wt, tr, sm', fs, y, hy, by omega, hsl, by omega⟩⟩)) (by simp [-Option.bind_some, itr, evr, hfy]) (itr_ok _ _)
      rw [hsc]
      exact .some ⟨_, rfl, hcd, hsm2, ⟨rfl, rfl, rfl, hch, hl1, hl3, fun _ => ⟨t0, t1, w0, w1, htr, hsm, hfs, htx⟩, fun _ => w2, fun h0 => absurd rfl h0⟩⟩
def lessE (a b : Ev) : Bool := if a.a5 = b.a5 then (if a.a0 = b.a0 then (if a.a1 = b.a1 then decide (a.a2 < b.a2) else decide (a.a1 < b.a1)) else decide (a.a0 < b.a0)) else decide (a.a5 < b.a5)
theorem s85 (a b : Ev) (h : Hp) : R fn85 [.agg (evr a), .agg (evr b)] h = some (.bool (lessE a b), h) := by
  rw [e85]
  by_cases h5 : a.a5 = b.a5
  · by_cases h0 : a.a0 = b.a0
    · by_cases h1 : a.a1 = b.a1
      · simp [-Option.bind_some, F85, evr, lessE, h5, h0, h1]
      · simp [-Option.bind_some, F85, evr, lessE, h5, h0, h1]
    · simp [-Option.bind_some, F85, evr, lessE, h5, h0]
  · simp [-Option.bind_some, F85, evr, lessE, h5]
/-- Where it is inserted, among the first k. -/
def insPos (l : List Ev) (e : Ev) : Nat → Nat
  | 0 => 0
  | k + 1 => match l[k]? with
    | some x => if lessE e x = true then insPos l e k else k + 1
    | none => k + 1
def ins (l : List Ev) (e : Ev) : List Ev := l.take (insPos l e l.length) ++ [e] ++ l.drop (insPos l e l.length)
theorem insPos_le (l : List Ev) (e : Ev) : ∀ k, insPos l e k ≤ k
  | 0 => Nat.le_refl _
  | k + 1 => by
    unfold insPos
    cases l[k]? with
    | none => simp [-Option.bind_some]
    | some x =>
      by_cases h : lessE e x = true
      · simp [-Option.bind_some, h]; have := insPos_le l e k; omega
      · simp [-Option.bind_some, h]
theorem l72 (l : List Ev) (d : D) (e : Ev) (h : Hp) (hd : SlOf 10 evr l d) (hl : l.length ≤ 1000000000) : ∀ k, k ≤ l.length → ∀ a, ∃ b, loopW (F72_L0 d (.fptr (evr e))) [.int .i64 k, a] h = some (.ext 0, [.int .i64 (insPos l e k : Nat), b], h) := by
  intro k
  induction k with
  | zero =>
    intro _ a
    rw [loopW_eq]
    exact ⟨_, by simp [-Option.bind_some, F72_L0, insPos]; rfl⟩
  | succ k ih =>
    intro hk a
    have hg : l[k]? = some l[k] := List.getElem?_eq_getElem (by omega)
    have hp : (0 : Int) < (k : Int) + 1 := by omega
    have hw : IntKind.wrap .i64 (k : Int) = k := wrap_i64 (by omega) (by omega)
    rw [loopW_eq]
    by_cases hs : lessE e l[k] = true
    · obtain ⟨b, ih⟩ := ih (by omega) (.bool true)
      refine ⟨b, ?_⟩
      simp [-Option.bind_some, F72_L0, insPos, hg, hs, hp, hw, evL, ixs40 hd, s85]
      simpa [-Option.bind_some, F72_L0] using ih
    · exact ⟨_, by simp [-Option.bind_some, F72_L0, insPos, hg, hs, hp, hw, evL, ixs40 hd, s85]; rfl⟩
theorem s72 (l : List Ev) (d : D) (e : Ev) (h : Hp) (hd : SlOf 10 evr l d) (hl : l.length ≤ 1000000000) : ∃ d', R fn72 [d, .agg (evr e)] h = some (d', h) ∧ SlOf 10 evr (ins l e) d' := by
  suffices Wp (R fn72 [d, .agg (evr e)] h) (fun p => p.2 = h ∧ SlOf 10 evr (ins l e) p.1) by
    obtain ⟨⟨x, h'⟩, h1, rfl, h2⟩ := this
    exact ⟨x, h1, h2⟩
  rw [e72]
  obtain ⟨b, hlp⟩ := l72 l d e h hd hl l.length (Nat.le_refl _) .any
  have hp := insPos_le l e l.length
  simp only [F72, pBoxF_agg, bs, Option.bind_assoc, lens40 hd, hlp, unblk_self, toEnd_nrm, nth_zero]
  obtain ⟨y1, hs1, hy1⟩ := slof_hi (T := tab) (t := ty40) (i := ti40) (j := ti31) (id rfl) (id rfl) (id rfl) (id rfl) hd (k := .i64) (n := (insPos l e l.length : Nat)) (by omega) (by omega)
  obtain ⟨y2, hs2, hy2⟩ := slof_lo (T := tab) (t := ty40) (i := ti40) (j := ti31) (id rfl) (id rfl) (id rfl) (id rfl) hd (k := .i64) (n := (insPos l e l.length : Nat)) (by omega) (by omega)
  rw [Int.toNat_natCast] at hy1 hy2
  simp only [hs1, hs2, bs]
  refine wap40 (n0 := h.length) (Nat.le_refl _) (Own.nils _ _ _ _) (slof_rows _ hy1) (by simp [-Option.bind_some]; omega) fun x1 h1 ow1 len1 bel1 _ _ => ?_
  have hb : pLitF tab ty40 1 [0] [.agg (evr e)] = some (.sl 10 true [evr e]) := by simp [-Option.bind_some, evr]
  simp only [bs, evL, hb]
  refine wap40 (by omega) ow1 (rowsOf_sl _ _ _ _) (by simp [-Option.bind_some]; omega) fun x2 h2 ow2 len2 bel2 _ _ => ?_
  dsimp only
  refine wap40 (by omega) ow2 (slof_rows _ hy2) (by simp [-Option.bind_some]; omega) fun x3 h3 ow3 len3 bel3 _ _ => ?_
  simp only [bs, mkRes_one]
  rw [List.nil_append, show [evr e] = [e].map evr from rfl, ← List.map_append, ← List.map_append] at ow3
  have hsl := own_sl (n0 := h.length) (n := 3) ow3 (Nat.le_refl _) (fun a _ => evr_frz _ h3 2 a)
  rw [scope_eq rfl (slof_ok hsl fun a _ => evr_ok _ a) (by omega) (fun q hq => ((bel3 q hq).trans (bel2 q hq)).trans (bel1 q hq))]
  exact .some ⟨rfl, hsl⟩
/-- Items of a file that follow each other. -/
def items (hst fil : Int) : Int → List It → Int → Prop
  | a, [], b => a = b
  | a, i :: r, b => ItOK hst fil a i ∧ items hst fil i.e.a3 r b
theorem items_snoc (hst fil : Int) : ∀ (l : List It) (a b : Int) (i : It), items hst fil a l b → ItOK hst fil b i → items hst fil a (l ++ [i]) i.e.a3
  | [], a, b, i, h, hi => by
    simp only [items] at h
    subst h
    exact ⟨hi, rfl⟩
  | x :: r, a, b, i, h, hi => ⟨h.1, items_snoc hst fil r _ b i h.2 hi⟩
theorem items_mem (hst fil : Int) : ∀ (l : List It) (a b : Int), items hst fil a l b → ∀ i ∈ l, ∃ f, ItOK hst fil f i
  | [], _, _, _, i, hi => by cases hi
  | x :: r, a, b, h, i, hi => by
    rcases List.mem_cons.1 hi with rfl | hi
    · exact ⟨_, h.1⟩
    · exact items_mem hst fil r _ _ h.2 i hi
/-- What the files are so far. -/
def FilesOK (host most : Int) (P : List It → D → Prop) (ps : List (List It × D)) : Prop := ∀ (f : Nat) p, ps[f]? = some p → P p.1 p.2 ∧ p.1.length ≤ most ∧ ∃ po, items host (5 + f) 0 p.1 po
theorem FilesOK.mono {host most : Int} {P P' : List It → D → Prop} {ps : List (List It × D)} (h : FilesOK host most P ps) (k : ∀ a b, P a b → P' a b) : FilesOK host most P' ps := fun f p hp => ⟨k _ _ (h f p hp).1, (h f p hp).2⟩
theorem l71 {o N : Nat} (host most f : Int) (n0 : Nat) (ho : o < n0) (hN : n0 ≤ N) (ds0 : List D) (hds0 : nth 1 ds0 = .int .i64 f) (hf0 : 0 ≤ f) (hf1 : f ≤ 1000) {β : Type} {K : Out → Option β} {Q : β → Prop} (g : Hp) (n : Nat) (hn : n ≤ 1000) (a b : D) (hc : CD g o) (hNg : N ≤ g.length)
    (k : ∀ g' its po x a b c, Own g' N ty74 11 (its.map itr) x → CD g' o → Grow N o g g' → items host (5 + f) 0 its po → its.length = n → Wp (K (.ext 2, [x, .int .i64 po, a, b, c], g')) Q) :
    Wp ((loopW (F71_L1 (.ptr o 0 0) (.int .i64 host) ds0) [.nils, .int .i64 0, .int .i64 n, a, b] g).bind K) Q := by
  refine Wp.loop (fun k ds g' => ∃ x po a b, ∃ its : List It, ds = [x, .int .i64 po, .int .i64 k, a, b] ∧ Own g' N ty74 11 (its.map itr) x ∧ CD g' o ∧ Grow N o g g' ∧ items host (5 + f) 0 its po ∧ 0 ≤ po ∧ po ≤ 108 * its.length ∧ its.length + k = n)
    (fun r => r.1 = .ext 2 ∧ ∃ x po a b c, ∃ its : List It, r.2.1 = [x, .int .i64 po, a, b, c] ∧ Own r.2.2 N ty74 11 (its.map itr) x ∧ CD r.2.2 o ∧ Grow N o g r.2.2 ∧ items host (5 + f) 0 its po ∧ its.length = n)
    n ⟨.nils, 0, a, b, [], rfl, Own.nils _ _ _ _, hc, .refl _ _ _, rfl, by omega, by simp [-Option.bind_some], by simp [-Option.bind_some]⟩ ?_ ?_
  · rintro k ds g' ⟨x, po, a, b, its, rfl, ow, hc', hg, hit, hp0, hp1, hk⟩
    simp only [F71_L1, nth_zero, nth_succ, bs, dBin_gtr, hds0, dBin_add, wrap_i64 (n := 5 + f) (by omega) (by omega)]
    refine Wp.dif ?_ ?_
    · intro h0
      have h0 : 0 < (k : Int) := by simpa [-Option.bind_some] using h0
      obtain ⟨i, g1, e1, c1, s1, hi⟩ := d84 hc' host (5 + f) po hp0 (by omega)
      have hcl := chain_le _ _ _ hi.ch
      have hn3 := hi.n3
      have hn1 := hi.n1
      have ow1 := ow.same s1 (by omega)
      refine Wp.step e1 ?_
      simp only [boxIt, bs, ldIt, bsIt]
      refine wap113 (by have := hg.1; have := s1.1; omega) ow1 (rowsOf_sl _ _ _ _) (by simp [-Option.bind_some]; omega) fun x' g2 ow2 len bel _ _ => ?_
      have hto := toIt i g2
      cases hfa : dFieldAddr tab ty74 1 (.fptr (itr i)) with
      | none => rw [hfa] at hto; cases hto
      | some p =>
        rw [hfa] at hto
        simp only [bs] at hto
        cases hfb : dFieldAddr tab ty31 3 p with
        | none => rw [hfb] at hto; cases hto
        | some q =>
          rw [hfb] at hto
          simp only [bs] at hto
          have hk1 : IntKind.wrap .i64 ((k : Int) - 1) = ((k - 1 : Nat) : Int) := by
            rw [wrap_i64 (by omega) (by omega)]; omega
          simp only [bs, hfa, hfb, hto, dBin_sub, hk1]
          refine .some (.inl ⟨rfl, k - 1, by omega, x', i.e.a3, _, _, its ++ [i], rfl, by rw [List.map_append]; exact ow2, c1.keep (bel o (by omega)), (hg.trans s1.grow).trans ⟨len, fun q hq _ => bel q hq⟩, items_snoc _ _ _ _ _ _ hit hi, by omega, by simp [-Option.bind_some]; omega, by simp [-Option.bind_some]; omega⟩)
    · intro h0
      have h0 : ¬ 0 < (k : Int) := by simpa [-Option.bind_some] using h0
      exact .some (.inr ⟨by simp [-Option.bind_some], rfl, x, po, _, _, _, its, rfl, ow, hc', hg, hit, by omega⟩)
  · rintro ⟨ex, ds, g'⟩ ⟨rfl, x, po, a, b, c, its, rfl, ow, hc', hg, hit, hn⟩
    exact k g' its po x a b c ow hc' hg hit hn
theorem d71 {h : Hp} {o : Nat} (hc : CD h o) (host most : Int) (hm0 : 0 ≤ most) (hm1 : most ≤ 100) : ∃ x h', R fn71 [.ptr o 0 0, .int .i64 host, .int .i64 most] h = some (x, h') ∧ CD h' o ∧ Same o h h' ∧ ∃ ps : List (List It × D), SlOf 1 (fun p => [p.2]) ps x ∧ ps.length ≤ 3 ∧ FilesOK host most (SlOf 11 itr) ps := by
  suffices Wp (R fn71 [.ptr o 0 0, .int .i64 host, .int .i64 most] h) (fun p => CD p.2 o ∧ Same o h p.2 ∧ ∃ ps : List (List It × D), SlOf 1 (fun p => [p.2]) ps p.1 ∧ ps.length ≤ 3 ∧ FilesOK host most (SlOf 11 itr) ps) by
    obtain ⟨⟨x, h'⟩, h1, h2⟩ := this
    exact ⟨x, h', h1, h2⟩
  have ho := hc.lt
  rw [e71]
  simp only [F71, bs, Option.bind_assoc]
  refine Wp.loop (fun k ds g => ∃ x a b c d e f', ∃ f : Nat, ∃ ps : List (List It × D), ds = [x, .int .i64 f, a, b, c, d, e, f'] ∧ St h o g ∧ Own g h.length ty113 1 (ps.map fun p => [p.2]) x ∧ ps.length = f ∧ k + f = 3 ∧ FilesOK host most (fun l d => Own g h.length ty74 11 (l.map itr) d) ps)
    (fun r => r.1 = .ext 0 ∧ ∃ x a b c d e f' h', ∃ ps : List (List It × D), r.2.1 = [x, a, b, c, d, e, f', h'] ∧ St h o r.2.2 ∧ Own r.2.2 h.length ty113 1 (ps.map fun p => [p.2]) x ∧ ps.length ≤ 3 ∧ FilesOK host most (fun l d => Own r.2.2 h.length ty74 11 (l.map itr) d) ps)
    3 ⟨.nils, .any, .any, .any, .any, .any, .any, 0, [], rfl, .refl hc, Own.nils _ _ _ _, rfl, rfl, fun f p hp => by simp [-Option.bind_some] at hp⟩ ?_ ?_
  · rintro k ds g ⟨x, a, b, c, d, e, f', f, ps, rfl, S, ow, hpf, hk, hps⟩
    simp only [F71_L0, nth_zero, nth_succ, bs, Option.bind_assoc]
    obtain ⟨v, g1, e1, c1, s1, v0, v1⟩ := next_b S.cd 3 (by omega) (by omega)
    have S1 := S.next c1 s1
    have ow1 := ow.same s1 ho
    have hps1 : FilesOK host most (fun l d => Own g1 h.length ty74 11 (l.map itr) d) ps := hps.mono fun _ _ w => w.same s1 ho
    refine Wp.step e1 ?_
    simp only [dBin_leq, bs]
    refine Wp.dif ?_ ?_
    · intro h0
      have h0 : (f : Int) ≤ v := by simpa [-Option.bind_some] using h0
      simp only [dBin_add, bs, wrap_i64 (n := most + 1) (by omega) (by omega)]
      obtain ⟨n, g2, e2, c2, s2, n0, n1⟩ := next_b c1 (most + 1) (by omega) (by omega)
      have S2 := S1.next c2 s2
      have ow2 := ow1.same s2 ho
      have hps2 : FilesOK host most (fun l d => Own g2 h.length ty74 11 (l.map itr) d) ps := hps1.mono fun _ _ w => w.same s2 ho
      refine Wp.step e2 ?_
      simp only [bs]
      rw [← Int.toNat_of_nonneg n0]
      refine l71 (N := g2.length) host most f h.length ho S2.le _ (by rfl) (by omega) (by omega) g2 n.toNat (by omega) _ _ c2 (Nat.le_refl _) ?_
      intro g3 its po y a' b' c' owy c3 gr hit hlen
      have bel : ∀ q, q < g2.length → q ≠ o → g3[q]? = g2[q]? := gr.2
      have S3 : St h o g3 := ⟨ho, c3, S2.gr.trans ⟨gr.1, fun q hq hn => bel q (by have := S2.le; omega) hn⟩⟩
      have ow3 : Own g3 h.length ty113 1 (ps.map fun p => [p.2]) x := ow2.keep fun q hq hin => bel q (ow2.lt hin).2 (by omega)
      have hps3 : FilesOK host most (fun l d => Own g3 h.length ty74 11 (l.map itr) d) ps := hps2.mono fun _ _ w => w.keep fun q hq hin => bel q (w.lt hin).2 (by omega)
      have owy' : Own g3 h.length ty74 11 (its.map itr) y := owy.from S2.le
      simp only [unblk_self, toEnd_nrm, nth_zero, nth_succ, bs, bs111_1 y (own_one owy)]
      have hw : IntKind.wrap .i64 ((f : Int) + 1) = ((f + 1 : Nat) : Int) := by
        rw [wrap_i64 (by omega) (by omega)]; omega
      refine wap111 S3.le ow3 (rowsOf_sl _ _ _ _) (by simp [-Option.bind_some]; omega) fun x' g4 ow4 len bel4 keep4 _ => ?_
      simp only [bs, hw]
      have kp : ∀ (l : List It) (d : D), Own g3 h.length ty74 11 (l.map itr) d → Own g4 h.length ty74 11 (l.map itr) d := fun l d w => w.keep fun q hq hin => keep4 q (w.lt hin).2 (own_dis w ow3 (by decide) hin)
      refine .some (.inl ⟨rfl, k - 1, by omega, x', _, _, _, _, _, _, f + 1, ps ++ [(its, y)], rfl, S3.app len bel4, by rw [List.map_append]; exact ow4, by simp [-Option.bind_some]; omega, by omega, fun j p hp => ?_⟩)
      rcases Nat.lt_or_ge j ps.length with hj | hj
      · rw [List.getElem?_append_left hj] at hp
        exact ⟨kp _ _ (hps3 j p hp).1, (hps3 j p hp).2⟩
      · rw [List.getElem?_append_right hj] at hp
        have hj0 : j - ps.length = 0 := by
          have := (List.getElem?_eq_some_iff.1 hp).1
          simpa [-Option.bind_some] using this
        rw [hj0] at hp
        simp [-Option.bind_some] at hp
        subst hp
        have hjf : j = f := by omega
        subst hjf
        exact ⟨kp _ _ owy', by simp only; omega, po, hit⟩
    · intro h0
      exact .some (.inr ⟨by simp [-Option.bind_some], rfl, x, _, _, _, _, _, _, _, ps, rfl, S1, ow1, by omega, hps1⟩)
  · rintro ⟨ex, ds, g⟩ ⟨rfl, x, a, b, c, d, e, f', h', ps, rfl, S, ow, hpl, hps⟩
    simp only [unblk_self, toEnd_nrm, nth_zero, bs, mkRes_one]
    have hfz : SlOf 1 (fun p : List It × D => [p.2]) (ps.map fun p => (p.1, frz h.length g 3 p.2)) (frz h.length g 4 x) := by
      rcases ow with ⟨rfl, hr⟩ | ⟨ob, hob, rfl, hgo⟩
      · have : ps = [] := by simpa [-Option.bind_some] using hr
        subst this
        exact .inl ⟨rfl, rfl⟩
      · right
        refine ⟨false, ?_⟩
        rw [frz_msl hob hgo]
        simp [-Option.bind_some]
        rw [List.take_of_length_le (by simp [-Option.bind_some])]
        rfl
    have hps' : FilesOK host most (SlOf 11 itr) (ps.map fun p => (p.1, frz h.length g 3 p.2)) := by
      intro j p hp
      rw [List.getElem?_map] at hp
      cases hq : ps[j]? with
      | none => rw [hq] at hp; cases hp
      | some q =>
        rw [hq] at hp
        simp [-Option.bind_some] at hp
        subst hp
        exact ⟨own_sl (hps j q hq).1 (Nat.le_refl _) fun a _ => itr_frz _ _ _ a, (hps j q hq).2⟩
    obtain ⟨h', hs, hcd, hsm⟩ := S.scope rfl (slof_ok hfz fun a ha d hd => by
      simp [-Option.bind_some] at hd
      subst hd
      obtain ⟨j, hj⟩ := List.getElem?_of_mem ha
      exact slof_ok (hps' j a hj).1 fun i _ => itr_oks _ i)
    exact ⟨_, hs, hcd, hsm, _, hfz, by simpa [-Option.bind_some] using hpl, hps'⟩
/-- What an event that is drawn looks like. -/
def EvOK (e : Ev) : Prop := ItOK e.a0 e.a1 e.a2 ⟨[], e⟩ ∧ 1 ≤ e.a0 ∧ e.a0 ≤ 2 ∧ 5 ≤ e.a1 ∧ e.a1 ≤ 7
def EvsOK (l : List Ev) : Prop := (∀ e ∈ l, EvOK e) ∧ l.Pairwise fun a b => a.a5 ≤ b.a5
theorem lessE_le {a b : Ev} (h : lessE a b = true) : a.a5 ≤ b.a5 := by
  unfold lessE at h
  split at h
  · omega
  · have : a.a5 < b.a5 := by simpa [-Option.bind_some] using h
    omega
theorem not_lessE_le {a b : Ev} (h : ¬ lessE a b = true) : b.a5 ≤ a.a5 := by
  unfold lessE at h
  split at h
  · omega
  · have : ¬ a.a5 < b.a5 := by simpa [-Option.bind_some] using h
    omega
theorem insPos_before (l : List Ev) (e : Ev) : ∀ k, k ≤ l.length → ∀ j x, insPos l e k = j + 1 → l[j]? = some x → x.a5 ≤ e.a5
  | 0, _, j, x, h, _ => by simp [-Option.bind_some, insPos] at h
  | k + 1, hk, j, x, h, hx => by
    have hg : l[k]? = some l[k] := List.getElem?_eq_getElem (by omega)
    simp only [insPos, hg] at h
    split at h
    · exact insPos_before l e k (by omega) j x h hx
    · rename_i hs
      have : k = j := by omega
      subst this
      rw [hg] at hx
      injection hx with hx
      subst hx
      exact not_lessE_le hs
theorem insPos_after (l : List Ev) (e : Ev) : ∀ k, k ≤ l.length → ∀ j x, insPos l e k ≤ j → j < k → l[j]? = some x → e.a5 ≤ x.a5
  | 0, _, j, x, h, hj, _ => by omega
  | k + 1, hk, j, x, h, hj, hx => by
    have hg : l[k]? = some l[k] := List.getElem?_eq_getElem (by omega)
    simp only [insPos, hg] at h
    split at h
    · rename_i hs
      rcases Nat.lt_or_ge j k with hjk | hjk
      · exact insPos_after l e k (by omega) j x h hjk hx
      · have : k = j := by omega
        subst this
        rw [hg] at hx
        injection hx with hx
        subst hx
        exact lessE_le hs
    · omega
theorem ins_len (l : List Ev) (e : Ev) : (ins l e).length = l.length + 1 := by
  have := insPos_le l e l.length
  simp [-Option.bind_some, ins]; omega
theorem ins_ok {l : List Ev} {e : Ev} (hl : EvsOK l) (he : EvOK e) : EvsOK (ins l e) := by
  have hp := insPos_le l e l.length
  refine ⟨fun x hx => ?_, ?_⟩
  · simp only [ins, List.append_assoc, List.mem_append, List.mem_singleton] at hx
    rcases hx with hx | rfl | hx
    · exact hl.1 x (List.mem_of_mem_take hx)
    · exact he
    · exact hl.1 x (List.mem_of_mem_drop hx)
  · have hbef : ∀ x ∈ l.take (insPos l e l.length), x.a5 ≤ e.a5 := by
      intro x hx
      obtain ⟨i, hi⟩ := List.getElem?_of_mem hx
      rw [List.getElem?_take] at hi
      split at hi
      · rename_i hlt
        obtain ⟨j, hj⟩ : ∃ j, insPos l e l.length = j + 1 := ⟨insPos l e l.length - 1, by omega⟩
        have hgj : l[j]? = some l[j] := List.getElem?_eq_getElem (by omega)
        have h1 := insPos_before l e l.length (Nat.le_refl _) j _ hj hgj
        rcases Nat.lt_or_ge i j with hij | hij
        · have h2 := List.pairwise_iff_getElem.1 hl.2 i j (by omega) (by omega) hij
          have : l[i] = x := by
            have := List.getElem?_eq_getElem (l := l) (i := i) (by omega)
            rw [this] at hi
            injection hi
          rw [this] at h2
          exact Int.le_trans h2 h1
        · have : i = j := by omega
          subst this
          rw [hgj] at hi
          injection hi with hi
          rw [← hi]; exact h1
      · cases hi
    have haft : ∀ x ∈ l.drop (insPos l e l.length), e.a5 ≤ x.a5 := by
      intro x hx
      obtain ⟨i, hi⟩ := List.getElem?_of_mem hx
      rw [List.getElem?_drop] at hi
      have hlt := (List.getElem?_eq_some_iff.1 hi).1
      exact insPos_after l e l.length (Nat.le_refl _) _ x (by omega) hlt hi
    unfold ins
    rw [List.append_assoc, List.pairwise_append]
    refine ⟨hl.2.sublist (List.take_sublist _ _), ?_, ?_⟩
    · rw [List.singleton_append, List.pairwise_cons]
      exact ⟨haft, hl.2.sublist (List.drop_sublist _ _)⟩
    · intro a ha b hb
      rcases List.mem_append.1 hb with hb | hb
      · simp [-Option.bind_some] at hb; subst hb; exact hbef a ha
      · exact Int.le_trans (hbef a ha) (haft b hb)
theorem l48b (ps : List (List It × D)) (d : D) (hd : SlOf 1 (fun p => [p.2]) ps d) (i : Nat) (ds1 : List D) (hds : nth 1 ds1 = .int .i64 i) (its : List It) (y : D) (hi : ps[i]? = some (its, y)) (hy : SlOf 11 itr its y) (hln : its.length ≤ 100)
    (hok : ∀ it ∈ its, it.r = [] → EvOK it.e) (l : List Ev) (x a b : D) (hx : SlOf 10 evr l x) (hl : EvsOK l) (hll : l.length ≤ 100000) (g : Hp) {β : Type} {K : Out → Option β} {Q : β → Prop}
    (cont : ∀ l' x' c a b, SlOf 10 evr l' x' → EvsOK l' → l'.length ≤ l.length + its.length → Wp (K (.ext 4, [x', c, a, b], g)) Q) :
    Wp ((loopW (F48_L2 d ds1) [x, .int .i64 0, a, b] g).bind K) Q := by
  refine Wp.loop (fun k ds g' => g' = g ∧ ∃ x a b, ∃ j : Nat, ∃ l' : List Ev, ds = [x, .int .i64 j, a, b] ∧ SlOf 10 evr l' x ∧ EvsOK l' ∧ l'.length ≤ l.length + j ∧ k + j = its.length)
    (fun r => r.1 = .ext 4 ∧ r.2.2 = g ∧ ∃ x c a b, ∃ l' : List Ev, r.2.1 = [x, c, a, b] ∧ SlOf 10 evr l' x ∧ EvsOK l' ∧ l'.length ≤ l.length + its.length)
    its.length ⟨rfl, x, a, b, 0, l, rfl, hx, hl, by omega, by omega⟩ ?_ ?_
  · rintro k ds g' ⟨rfl, x, a, b, j, l', rfl, hx, hl', hlen, hk⟩
    have hix : dIndexAddr tab ty111 d (.int .i64 i) = some (.fptr [y]) := by
      rw [ixs111 hd]; simp [-Option.bind_some, hi]
    simp only [F48_L2, nth_zero, nth_succ, bs, hds, hix, ld113, lens113 hy, dBin_lss, Option.bind_assoc]
    refine Wp.dif ?_ ?_
    · intro h0
      have hj : j < its.length := by have : (j : Int) < its.length := by simpa [-Option.bind_some] using h0
                                     omega
      have hg : its[j]? = some its[j] := List.getElem?_eq_getElem hj
      generalize hit : its[j] = it at hg
      have hiy : dIndexAddr tab ty113 y (.int .i64 j) = some (.fptr (itr it)) := by
        rw [ixs113 hy]; simp [-Option.bind_some, hg]
      have hw : IntKind.wrap .i64 ((j : Int) + 1) = ((j + 1 : Nat) : Int) := by
        rw [wrap_i64 (by omega) (by omega)]; omega
      simp only [hiy, bs, itF0, itL0, itF1, evL, dBin_seql]
      refine Wp.join (P := fun r => ∃ x, ∃ l2 : List Ev, r = (.nrm, [x], g') ∧ SlOf 10 evr l2 x ∧ EvsOK l2 ∧ l2.length ≤ l.length + (j + 1)) ?_ ?_ ?_
      · intro hr
        have hr : it.r = [] := by simpa [-Option.bind_some] using hr
        obtain ⟨d', e1, hd'⟩ := s72 l' x it.e g' hx (by omega)
        simp only [e1, bs]
        exact .some ⟨d', _, rfl, hd', ins_ok hl' (hok it (List.mem_of_getElem? hg) hr), by rw [ins_len]; omega⟩
      · intro _
        exact .some ⟨x, l', rfl, hx, hl', by omega⟩
      · rintro _ ⟨x, l2, rfl, hx, hl2, hlen2⟩
        simp only [unblk_nrm, toEnd_nrm, nth_zero, bs, dBin_add, hw]
        exact .some (.inl ⟨rfl, k - 1, by omega, rfl, x, _, _, j + 1, l2, rfl, hx, hl2, hlen2, by omega⟩)
    · intro h0
      exact .some (.inr ⟨by simp [-Option.bind_some], rfl, rfl, x, _, _, _, l', rfl, hx, hl', by omega⟩)
  · rintro ⟨ex, ds, g'⟩ ⟨rfl, rfl, x, c, a, b, l', rfl, hx, hl', hlen⟩
    exact cont l' x c a b hx hl' hlen
theorem l48a (ps : List (List It × D)) (d : D) (hd : SlOf 1 (fun p => [p.2]) ps d) (hln : ps.length ≤ 3) (hok : ∀ p ∈ ps, SlOf 11 itr p.1 p.2 ∧ p.1.length ≤ 100 ∧ ∀ it ∈ p.1, it.r = [] → EvOK it.e)
    (l : List Ev) (x a b c e : D) (hx : SlOf 10 evr l x) (hl : EvsOK l) (hll : l.length ≤ 10000) (g : Hp) {β : Type} {K : Out → Option β} {Q : β → Prop}
    (cont : ∀ l' x' f a b c e, SlOf 10 evr l' x' → EvsOK l' → l'.length ≤ l.length + 300 → Wp (K (.ext 2, [x', f, a, b, c, e], g)) Q) :
    Wp ((loopW (F48_L1 d) [x, .int .i64 0, a, b, c, e] g).bind K) Q := by
  refine Wp.loop (fun k ds g' => g' = g ∧ ∃ x a b c e, ∃ j : Nat, ∃ l' : List Ev, ds = [x, .int .i64 j, a, b, c, e] ∧ SlOf 10 evr l' x ∧ EvsOK l' ∧ l'.length ≤ l.length + 100 * j ∧ k + j = ps.length)
    (fun r => r.1 = .ext 2 ∧ r.2.2 = g ∧ ∃ x f a b c e, ∃ l' : List Ev, r.2.1 = [x, f, a, b, c, e] ∧ SlOf 10 evr l' x ∧ EvsOK l' ∧ l'.length ≤ l.length + 300)
    ps.length ⟨rfl, x, a, b, c, e, 0, l, rfl, hx, hl, by omega, by omega⟩ ?_ ?_
  · rintro k ds g' ⟨rfl, x, a, b, c, e, j, l', rfl, hx, hl', hlen, hk⟩
    simp only [F48_L1, nth_zero, nth_succ, bs, lens111 hd, dBin_lss, Option.bind_assoc]
    refine Wp.dif ?_ ?_
    · intro h0
      have hj : j < ps.length := by have : (j : Int) < ps.length := by simpa [-Option.bind_some] using h0
                                    omega
      have hg : ps[j]? = some ps[j] := List.getElem?_eq_getElem hj
      generalize hit : ps[j] = p at hg
      obtain ⟨hy, hpl, hpe⟩ := hok p (List.mem_of_getElem? hg)
      have hw : IntKind.wrap .i64 ((j : Int) + 1) = ((j + 1 : Nat) : Int) := by
        rw [wrap_i64 (by omega) (by omega)]; omega
      refine l48b ps d hd j _ rfl p.1 p.2 (by rw [hg]) hy hpl hpe l' x _ _ hx hl' (by omega) g' ?_
      intro l2 x2 c2 a2 b2 hx2 hl2 hlen2
      simp only [unblk_self, unblk_nrm, toEnd_nrm, nth_zero, nth_succ, bs, dBin_add, hw]
      exact .some (.inl ⟨rfl, k - 1, by omega, rfl, x2, _, _, _, _, j + 1, l2, rfl, hx2, hl2, by omega, by omega⟩)
    · intro h0
      exact .some (.inr ⟨by simp [-Option.bind_some], rfl, rfl, x, _, _, _, _, _, l', rfl, hx, hl', by omega⟩)
  · rintro ⟨ex, ds, g'⟩ ⟨rfl, rfl, x, f, a, b, c, e, l', rfl, hx, hl', hlen⟩
    exact cont l' x f a b c e hx hl' hlen
theorem d48 {h : Hp} {o : Nat} (hc : CD h o) (most : Int) (hm0 : 0 ≤ most) (hm1 : most ≤ 100) : ∃ x h', R fn48 [.ptr o 0 0, .int .i64 most] h = some (x, h') ∧ CD h' o ∧ Same o h h' ∧ ∃ l : List Ev, SlOf 10 evr l x ∧ EvsOK l ∧ l.length ≤ 600 := by
  suffices Wp (R fn48 [.ptr o 0 0, .int .i64 most] h) (fun p => CD p.2 o ∧ Same o h p.2 ∧ ∃ l : List Ev, SlOf 10 evr l p.1 ∧ EvsOK l ∧ l.length ≤ 600) by
    obtain ⟨⟨x, h'⟩, h1, h2⟩ := this
    exact ⟨x, h', h1, h2⟩
  rw [e48]
  simp only [F48, bs, Option.bind_assoc]
  refine Wp.loop (fun k ds g => ∃ x a b c d e f' g', ∃ j : Nat, ∃ l : List Ev, ds = [x, .int .i64 j, a, b, c, d, e, f', g'] ∧ CD g o ∧ Same o h g ∧ SlOf 10 evr l x ∧ EvsOK l ∧ l.length + 300 ≤ 300 * j ∧ k + j = 3 ∧ 1 ≤ j)
    (fun r => r.1 = .ext 0 ∧ ∃ x a b c d e f' g' h', ∃ l : List Ev, r.2.1 = [x, a, b, c, d, e, f', g', h'] ∧ CD r.2.2 o ∧ Same o h r.2.2 ∧ SlOf 10 evr l x ∧ EvsOK l ∧ l.length ≤ 600)
    2 ⟨.nils, .any, .any, .any, .any, .any, .any, .any, 1, [], rfl, hc, .refl _ _, SlOf.nils _ _, ⟨by simp [-Option.bind_some], by simp [-Option.bind_some]⟩, by simp [-Option.bind_some], rfl, by omega⟩ ?_ ?_
  · rintro k ds g ⟨x, a, b, c, d, e, f', g', j, l, rfl, hc, hs, hx, hl, hlen, hk, hj⟩
    simp only [F48_L0, nth_zero, nth_succ, bs, Option.bind_assoc]
    obtain ⟨v, g1, e1, c1, s1, v0, v1⟩ := next_b hc 2 (by omega) (by omega)
    refine Wp.step e1 ?_
    simp only [dBin_add, wrap_i64 (n := 1 + v) (by omega) (by omega), dBin_leq, bs]
    refine Wp.dif ?_ ?_
    · intro h0
      have h0 : (j : Int) ≤ 1 + v := by simpa [-Option.bind_some] using h0
      obtain ⟨y, g2, e2, c2, s2, ps, hy, hpl, hps⟩ := d71 c1 j most hm0 hm1
      refine Wp.step e2 ?_
      simp only [bs]
      have hok : ∀ p ∈ ps, SlOf 11 itr p.1 p.2 ∧ p.1.length ≤ 100 ∧ ∀ it ∈ p.1, it.r = [] → EvOK it.e := by
        intro p hp
        obtain ⟨f, hf⟩ := List.getElem?_of_mem hp
        obtain ⟨h1, h2, po, h3⟩ := hps f p hf
        refine ⟨h1, by omega, fun it hit hr => ?_⟩
        obtain ⟨fr, hio⟩ := items_mem _ _ _ _ _ h3 it hit
        have hf3 := (List.getElem?_eq_some_iff.1 hf).1
        have e0 := hio.host
        have e1 := hio.file
        have e2 := hio.fr
        refine ⟨?_, by omega, by omega, by omega, by omega⟩
        have : (⟨[], it.e⟩ : It) = it := by cases it; simp [-Option.bind_some] at hr; simp [-Option.bind_some, hr]
        rw [this, e0, e1, e2]; exact hio
      refine l48a ps y hy hpl hok l x _ _ _ _ hx hl (by omega) g2 ?_
      intro l2 x2 f2 a2 b2 c3 e3 hx2 hl2 hlen2
      have hw : IntKind.wrap .i64 ((j : Int) + 1) = ((j + 1 : Nat) : Int) := by
        rw [wrap_i64 (by omega) (by omega)]; omega
      simp only [unblk_self, unblk_nrm, toEnd_nrm, nth_zero, nth_succ, bs, dBin_add, hw]
      exact .some (.inl ⟨rfl, k - 1, by omega, x2, _, _, _, _, _, _, _, j + 1, l2, rfl, c2, (hs.trans s1).trans s2, hx2, hl2, by omega, by omega, by omega⟩)
    · intro h0
      exact .some (.inr ⟨by simp [-Option.bind_some], rfl, x, _, _, _, _, _, _, _, _, l, rfl, c1, hs.trans s1, hx, hl, by omega⟩)
  · rintro ⟨ex, ds, g⟩ ⟨rfl, x, a, b, c, d, e, f', g', h', l, rfl, hc, hs, hx, hl, hlen⟩
    simp only [unblk_self, toEnd_nrm, nth_zero, bs, mkRes_one]
    exact .some ⟨hc, hs, l, hx, hl, hlen⟩
def ev0 : Ev := ⟨0, 0, 0, 0, [], .nils, 0, 0, [], [], [], .nils, SlOf.nils _ _, by simp [-Option.bind_some], SlOf.nils _ _, by simp [-Option.bind_some]⟩
theorem s14 (h : Hp) : R fn14 [] h = some (.bool true, h) := by
  rw [e14]
  have h1 := s18 [⟨[120], [121], [], 0⟩, ⟨[122], [], [], 0⟩] _ ev0 h (SlOf.mk 4 polr _ true) (by simp [-Option.bind_some])
  have h2 : polI [⟨[120], [121], [], 0⟩, ⟨[122], [], [], 0⟩] ev0 = 1 := by decide
  rw [h2] at h1
  simp only [List.map, polr, evr, ev0] at h1
  simp [-Option.bind_some, F14, h1]
theorem s99 (n : Int) (h : Hp) : R fn99 [.int .i64 n] h = some (.bool false, h) := by
  rw [e99]
  simp [-Option.bind_some, F99]
def cmpI (a b : Int) : Int := if a < b then -1 else if b < a then 1 else 0
theorem s90 (a b : Int) (h : Hp) : R fn90 [.int .i64 a, .int .i64 b] h = some (.int .i64 (cmpI a b), h) := by
  rw [e90]
  simp [-Option.bind_some, F90, s99, cmpI]
  by_cases h0 : a < b
  · simp [-Option.bind_some, h0]
  · by_cases h1 : b < a <;> simp [-Option.bind_some, h0, h1]
theorem sgtr (t : Nat) (s u : Str) : dBin tab .gtr t (.str s) (.str u) = some (.bool (!(Op.bytesLess s u || s == u))) := id rfl
theorem app_full {T : Tab} {t e : Nat} {i j : TI} (ht : T t = Option.some i) (hi : i.td = .sl e) (he : T e = Option.some j) (hz : 0 < j.sz) {h : Hp} {ys : List (List D)} {y : D} (hy : dRowsOf h j.sz y = Option.some ys) (hl : lim ys.length j.by_ = true) :
    ∃ x' h', dAppend T h t t (.sl j.sz true []) y = Option.some (x', h') ∧ h.length ≤ h'.length ∧ (∀ q, q < h.length → h'[q]? = h[q]?) ∧ ((x' = .sl j.sz true [] ∧ ys = []) ∨ Own h' h.length e j.sz ys x') := by
  have hz' : Nat.blt 0 j.sz = true := Nat.ble_eq_true_of_le hz
  have hs : dSrc h i j y = Option.some ys := by simp [-Option.bind_some, dSrc, hi, hy]
  unfold dAppend
  simp only [ht, hi, he, hz', hs]
  cases ys with
  | nil => exact ⟨_, _, rfl, Nat.le_refl _, fun _ _ => rfl, .inl ⟨rfl, rfl⟩⟩
  | cons y1 yr =>
    simp only [List.length_nil, Nat.zero_add, hl, and_self, if_true, List.nil_append, true_and]
    exact ⟨_, _, rfl, by simp [-Option.bind_some, dNew], fun q hq => by simp only [dNew]; rw [List.getElem?_append_left hq], .inr (.inr ⟨h.length, Nat.le_refl _, rfl, by simp [-Option.bind_some, dNew]⟩)⟩
def inr (n : Int) : List D := [.int .i64 n]
def orI : List Int → Int
  | [] => 0
  | x :: r => if x = 0 then orI r else x
theorem l89 (l : List Int) (d : D) (h : Hp) (hd : SlOf 1 inr l d) (hl : l.length ≤ 9223372036854775807) {β : Type} (K : Out → Option β) (X : Int → Option β)
   (hX : ∀ v r, K (.ret, .int .i64 v :: r, h) = X v) (hY : ∀ r, K (.ext 0, r, h) = X 0) : ∀ (suf pre : List Int), l = pre ++ suf → ∀ n : Int, n = pre.length → ∀ a b e f,
   (loopW (F89_L0 (.int .i64 0) d (.int .i64 l.length)) [a, b, .int .i64 n, e, f] h).bind K = X (orI suf) := by
  intro suf
  induction suf with
  | nil =>
    rintro pre rfl n rfl a b e f
    rw [loopW_eq]
    simp [-Option.bind_some, F89_L0, hY, orI]
  | cons p suf ih =>
    rintro pre rfl n rfl a b e f
    have hw : IntKind.wrap .i64 ((pre.length : Int) + 1) = (pre ++ [p]).length := by
      rw [wrap_i64 (by omega) (by simp [-Option.bind_some] at hl; omega)]; simp [-Option.bind_some]
    have hlt : (pre.length : Int) < (pre ++ p :: suf).length := by simp [-Option.bind_some]; omega
    rw [loopW_eq]
    generalize hL : pre ++ p :: suf = L at *
    have hg : L[pre.length]? = some p := by rw [← hL]; exact get_mid _ _ _
    by_cases hp : p = 0
    · subst hp
      have := ih (pre ++ [0]) (by simp [-Option.bind_some, ← hL]) _ rfl a (.int .i64 0) (.bool true) (.bool false)
      simp only [← hw] at this
      simp [-Option.bind_some, F89_L0, ixs82 hd, hlt, hg, inr, orI]
      exact this
    · simp [-Option.bind_some, F89_L0, ixs82 hd, hlt, hg, inr, hp, hX, orI]
theorem s89 (l : List Int) (d : D) (h : Hp) (hd : SlOf 1 inr l d) (hl : l.length ≤ 9223372036854775807) : R fn89 [d] h = some (.int .i64 (orI l), h) := by
  rw [e89]
  simp only [F89, bs, lens82 hd, Option.bind_assoc]
  rw [l89 l d h hd hl _ (fun v => some (.int .i64 v, h)) (fun v r => by simp [-Option.bind_some]) (fun r => by simp [-Option.bind_some]) l [] rfl 0 rfl]
theorem d45s {h : Hp} {o : Nat} (hc : CD h o) : ∃ x h', R fn45 [.ptr o 0 0] h = some (x, h') ∧ CD h' o ∧ Same o h h' ∧ ∃ l : List Pol, SlOf 4 polr l x ∧ l.length ≤ 3 ∧ ∀ p ∈ l, badP p = false := by
  suffices Wp (R fn45 [.ptr o 0 0] h) (fun p => CD p.2 o ∧ Same o h p.2 ∧ ∃ l : List Pol, SlOf 4 polr l p.1 ∧ l.length ≤ 3 ∧ ∀ p ∈ l, badP p = false) by
    obtain ⟨⟨x, h'⟩, h1, h2⟩ := this
    exact ⟨x, h', h1, h2⟩
  rw [e45]
  simp only [F45, bs]
  obtain ⟨v, h1, e1, c1, s1, b0, b1⟩ := next_b hc 2 (by omega) (by omega)
  have S1 := (St.refl hc).next c1 s1
  refine Wp.step e1 ?_
  simp only [dBin_eql, bs]
  refine Wp.join (P := fun r => ∃ x g, ∃ l : List Pol, r = (.nrm, [x], g) ∧ St h o g ∧ Own g h.length ty53 4 (l.map polr) x ∧ l.length ≤ 1 ∧ (l.map (·.n)).Sublist [[119, 97, 114, 110]] ∧ ∀ p ∈ l, badP p = false) ?_ ?_ ?_
  · intro _
    obtain ⟨v, h2, e2, c2, s2, b0, b1⟩ := next_b S1.cd 4 (by omega) (by omega)
    have S2 := S1.next c2 s2
    refine Wp.step e2 ?_
    simp only [dBin_mul, wrap_i64 (n := v * 86400000) (by omega) (by omega), bs, bd53_0_1_2_3, bs38_1]
    refine wap38 S2.le (Own.nils h2 h.length ty53 4) (rowsOf_sl _ _ _ _) (by simp [-Option.bind_some]) fun x' g' ow len bel _ _ => ?_
    simp only [bs]
    exact .some ⟨x', g', [⟨_, _, _, _⟩], rfl, S2.app len bel, ow, by simp [-Option.bind_some], List.Sublist.refl _, fun p hp => by simp [-Option.bind_some] at hp; subst hp; simp [-Option.bind_some, badP]; try omega⟩
  · intro _
    exact .some ⟨_, _, [], rfl, S1, Own.nils _ _ _ _, by simp [-Option.bind_some], by simp [-Option.bind_some], by simp [-Option.bind_some]⟩
  rintro _ ⟨x, g, l, rfl, S, ow, hl, hsub, hbad⟩
  simp only [toEnd_nrm, nth_zero]
  obtain ⟨v, h1, e1, c1, s1, b0, b1⟩ := next_b S.cd 2 (by omega) (by omega)
  have S1 := S.next c1 s1
  replace ow := ow.same s1 hc.lt
  refine Wp.step e1 ?_
  simp only [dBin_eql, bs]
  refine Wp.join (P := fun r => ∃ x g, ∃ l : List Pol, r = (.nrm, [x], g) ∧ St h o g ∧ Own g h.length ty53 4 (l.map polr) x ∧ l.length ≤ 2 ∧ (l.map (·.n)).Sublist [[119, 97, 114, 110], [115, 101, 118, 101, 110]] ∧ ∀ p ∈ l, badP p = false) ?_ ?_ ?_
  · intro _
    obtain ⟨v, h2, e2, c2, s2, b0, b1⟩ := next_b S1.cd 50 (by omega) (by omega)
    have S2 := S1.next c2 s2
    replace ow := ow.same s2 hc.lt
    refine Wp.step e2 ?_
    simp only [dBin_add, wrap_i64 (n := 1 + v) (by omega) (by omega), bs, bd53_0_1_2_3, bs38_1]
    refine wap38 S2.le ow (rowsOf_sl _ _ _ _) (by simp [-Option.bind_some]; omega) fun x' g' ow len bel _ _ => ?_
    simp only [bs]
    exact .some ⟨x', g', l ++ [⟨_, _, _, _⟩], rfl, S2.app len bel, by rw [List.map_append]; exact ow, by simp [-Option.bind_some]; omega, by rw [List.map_append]; exact hsub.append (List.Sublist.refl _), fun p hp => by rcases List.mem_append.1 hp with hp | hp; exact hbad p hp; simp [-Option.bind_some] at hp; subst hp; simp [-Option.bind_some, badP]; try omega⟩
  · intro _
    exact .some ⟨_, _, l, rfl, S1, ow, by omega, hsub.trans (List.sublist_append_left _ _), hbad⟩
  clear S hl e1 S1 ow
  rintro _ ⟨x, g, l, rfl, S, ow, hl, hsub, hbad⟩
  simp only [toEnd_nrm, nth_zero]
  obtain ⟨v, h1, e1, c1, s1, b0, b1⟩ := next_b S.cd 3 (by omega) (by omega)
  have S1 := S.next c1 s1
  replace ow := ow.same s1 hc.lt
  refine Wp.step e1 ?_
  simp only [dBin_gtr, bs]
  refine Wp.join (P := fun r => ∃ x g, ∃ l : List Pol, r = (.nrm, [x], g) ∧ St h o g ∧ Own g h.length ty53 4 (l.map polr) x ∧ l.length ≤ 3 ∧ (l.map (·.n)).Sublist [[119, 97, 114, 110], [115, 101, 118, 101, 110], [97, 108, 108]] ∧ ∀ p ∈ l, badP p = false) ?_ ?_ ?_
  · intro _
    simp only [lt82_2_ok, bs]
    obtain ⟨v, h2, e2, c2, s2, b0, b1⟩ := next_b S1.cd 5 (by omega) (by omega)
    have S2 := S1.next c2 s2
    replace ow := ow.same s2 hc.lt
    obtain ⟨s, hs, hg⟩ := pick_of lt82_2 v b0 b1
    have hsb := (show ∀ s ∈ lt82_2, 0 ≤ s ∧ s ≤ 253402300799999 by decide) s hs
    refine Wp.step e2 ?_
    simp only [ix82, b0, if_true, List.getElem?_map, hg, Option.map_some, bs, ld3, bd53_0_3, bs38_1]
    refine wap38 S2.le ow (rowsOf_sl _ _ _ _) (by simp [-Option.bind_some]; omega) fun x' g' ow len bel _ _ => ?_
    simp only [bs]
    exact .some ⟨x', g', l ++ [⟨_, _, _, _⟩], rfl, S2.app len bel, by rw [List.map_append]; exact ow, by simp [-Option.bind_some]; omega, by rw [List.map_append]; exact hsub.append (List.Sublist.refl _), fun p hp => by rcases List.mem_append.1 hp with hp | hp; exact hbad p hp; simp [-Option.bind_some] at hp; subst hp; simp [-Option.bind_some, badP]; try omega⟩
  · intro _
    exact .some ⟨_, _, l, rfl, S1, ow, by omega, hsub.trans (List.sublist_append_left _ _), hbad⟩
  clear S hl e1 S1 ow
  rintro _ ⟨x, g, l, rfl, S, ow, hl, hsub, hbad⟩
  simp only [toEnd_nrm, nth_zero, bs, mkRes_one]
  have hsl := own_sl (n := 3) ow (Nat.le_refl _) (fun a _ => polr_frz _ g _ a)
  obtain ⟨h', hs, hcd, hsm⟩ := S.scope rfl (slof_ok hsl fun a _ => polr_ok _ a)
  exact ⟨_, hs, hcd, hsm, l, hsl, hl, hbad⟩
theorem s15s (zs : List Int) (d : D) (h : Hp) (hd : Given .u8 zs d) (hz : ∀ z ∈ zs, 0 ≤ z ∧ z < 256) : ∃ (dp dh de : D) (now : Int) (h' : Hp) (ps : List Pol) (hs : List Hld) (es : List Ev), R fn15 [d] h = some (.tup [dp, dh, de, .int .i64 now, .ptr h.length 0 0], h') ∧ CD h' h.length ∧ h'.length = h.length + 1
    ∧ SlOf 4 polr ps dp ∧ ps.length ≤ 3 ∧ (∀ p ∈ ps, badP p = false) ∧ SlOf 5 hldr hs dh ∧ hs.length ≤ 2 ∧ SlOf 10 evr es de ∧ EvsOK es ∧ es.length ≤ 600 ∧ -9223372036854775808 ≤ now ∧ now ≤ 253402300800000 := by
  suffices Wp (R fn15 [d] h) (fun p => ∃ (dp dh de : D) (now : Int) (ps : List Pol) (hs : List Hld) (es : List Ev), p.1 = .tup [dp, dh, de, .int .i64 now, .ptr h.length 0 0] ∧ CD p.2 h.length ∧ p.2.length = h.length + 1
    ∧ SlOf 4 polr ps dp ∧ ps.length ≤ 3 ∧ (∀ p ∈ ps, badP p = false) ∧ SlOf 5 hldr hs dh ∧ hs.length ≤ 2 ∧ SlOf 10 evr es de ∧ EvsOK es ∧ es.length ≤ 600 ∧ -9223372036854775808 ≤ now ∧ now ≤ 253402300800000) by
    obtain ⟨⟨x, h'⟩, h1, dp, dh, de, now, ps, hs, es, rfl, h2⟩ := this
    exact ⟨dp, dh, de, now, h', ps, hs, es, h1, h2⟩
  rw [e15]
  simp only [F15, bs]
  obtain ⟨h0, e0, c0, hl0⟩ := d44 zs d 400 h hd (by omega) (by omega) hz
  refine Wp.step e0 ?_
  simp only [bs]
  obtain ⟨dp, h1, e1, c1, s1, ps, hp, hpl, hpb⟩ := d45s c0
  refine Wp.step e1 ?_
  simp only [bs]
  obtain ⟨dh, h2, e2, c2, s2, hs, hh, hhl⟩ := d46 c1
  refine Wp.step e2 ?_
  simp only [bs]
  obtain ⟨tm, h3, e3, c3, s3, t0, t1⟩ := d35 c2
  refine Wp.step e3 ?_
  simp only [bs]
  obtain ⟨u, h4, e4, c4, s4, u0, u1⟩ := next_b c3 3 (by omega) (by omega)
  refine Wp.step e4 ?_
  simp only [bs]
  obtain ⟨w, h5, e5, c5, s5, w0, w1⟩ := next_b c4 256 (by omega) (by omega)
  refine Wp.step e5 ?_
  have m0 : 0 ≤ u * w := Int.mul_nonneg u0 w0
  have m1 : u * w ≤ 2 * 255 := Int.mul_le_mul (by omega) (by omega) w0 (by omega)
  simp only [dBin_mul, dBin_add, bs, wrap_i64 (n := u * w) (by omega) (by omega), wrap_i64 (n := u * w * 40000000) (by omega) (by omega), wrap_i64 (n := tm + u * w * 40000000) (by omega) (by omega)]
  obtain ⟨v, h6, e6, c6, s6, v0, v1⟩ := next_b c5 8 (by omega) (by omega)
  refine Wp.step e6 ?_
  have s06 := ((((s1.trans s2).trans s3).trans s4).trans s5).trans s6
  clear e0 e1 e2 e3 e4 e5 e6
  simp only [dBin_eql, bs]
  refine Wp.join (P := fun r => ∃ now g, r = (.nrm, [.int .i64 now], g) ∧ CD g h.length ∧ Same h.length h0 g ∧ -9223372036854775808 ≤ now) ?_ ?_ ?_
  · intro _
    obtain ⟨n, h7, e7, c7, s7, n0, n1⟩ := d47 c6
    refine Wp.step e7 ?_
    simp only [bs]
    exact .some ⟨n, h7, rfl, c7, s06.trans s7, n0⟩
  · intro _
    exact .some ⟨_, h6, rfl, c6, s06, by omega⟩
  rintro _ ⟨now, g, rfl, cg, sg, hn⟩
  simp only [toEnd_nrm, nth_zero, bs]
  obtain ⟨de, h8, e8, c8, s8, es, he, heo, hel⟩ := d48 cg 5 (by omega) (by omega)
  refine Wp.step e8 ?_
  simp only [dMin_int, bs, mkRes_two]
  have hlen : h8.length = h.length + 1 := by rw [s8.1, sg.1, hl0]
  by_cases hm : now ≤ 253402300800000
  · simp only [hm, if_true]
    exact .some ⟨dp, dh, de, now, ps, hs, es, rfl, c8, hlen, hp, hpl, hpb, hh, hhl, he, heo, hel, hn, hm⟩
  · simp only [hm, if_false]
    exact .some ⟨dp, dh, de, _, ps, hs, es, rfl, c8, hlen, hp, hpl, hpb, hh, hhl, he, heo, hel, by omega, by omega⟩
/-- A tally. -/
structure Tal where
  h : Int
  r : Str
  n : Int
def talr (t : Tal) : List D := [.int .i64 t.h, .str t.r, .int .i64 t.n]
theorem talr_ld (m : Tal) (h : Hp) : dLoad tab h ty106 (.fptr (talr m)) = some (.agg (talr m)) := id rfl
theorem talr_frz (n0 : Nat) (h : Hp) (n : Nat) (p : Tal) : ∀ d ∈ talr p, frz n0 h n d = d := by simp [-Option.bind_some, talr]
theorem talr_ok (n : Nat) (p : Tal) : ∀ d ∈ talr p, Ok n d := by
  intro d hd
  simp [-Option.bind_some, talr] at hd
  rcases hd with rfl | rfl | rfl <;> constructor
def cmpS (a b : Str) : Int := if Op.bytesLess a b = true then -1 else if a = b then 0 else 1
theorem s100 (s : Str) (h : Hp) : R fn100 [.str s] h = some (.bool false, h) := by
  rw [e100]
  simp [-Option.bind_some, F100]
theorem s91 (a b : Str) (h : Hp) : R fn91 [.str a, .str b] h = some (.int .i64 (cmpS a b), h) := by
  rw [e91]
  simp only [F91, bs, s100, dIf_bool, Bool.false_eq_true, if_false, dBin_slss, sgtr, cmpS, mkRes_one]
  cases h0 : Op.bytesLess a b
  · by_cases h1 : a = b <;> simp [-Option.bind_some, h1]
  · simp [-Option.bind_some]
def cmpT (a b : Tal) : Int := orI [cmpI a.h b.h, cmpS a.r b.r]
theorem s88 (a b : Tal) (h : Hp) : R fn88 [.agg (talr a), .agg (talr b)] h = some (.int .i64 (cmpT a b), h) := by
  have hb : ∀ n0 n1 : Int, pLitF tab ty82 2 [0, 1] [.int .i64 n0, .int .i64 n1] = some (.sl 1 true ([n0, n1].map inr)) := fun n0 n1 => id rfl
  have h89 := s89 [cmpI a.h b.h, cmpS a.r b.r] (.sl 1 true [inr (cmpI a.h b.h), inr (cmpS a.r b.r)]) h (SlOf.mk 1 inr [cmpI a.h b.h, cmpS a.r b.r] true) (by simp [-Option.bind_some])
  rw [e88]
  simp [-Option.bind_some, F88, talr, s90, s91, hb, h89, cmpT]
/-- A slice of tallies that can be read here. -/
def RdT (h : Hp) (l : List Tal) (d : D) : Prop := SlOf 3 talr l d ∨ ∃ ob, d = .msl 3 ob 0 l.length ∧ h[ob]? = some (.row ty106 3 (l.map talr))
theorem rdT_len {h : Hp} {l : List Tal} {d : D} (hd : RdT h l d) : dLenT tab ty58 d = some (.int .i64 l.length) := by
  rcases hd with hd | ⟨ob, rfl, _⟩
  · exact lens58 hd
  · exact lenm58 _ _ _ _
end Go.Proofs.Ytdoppnhopjdhmaa
