import Derived.Test.YtiamjjeflmcgoaaW5
set_option linter.unusedSimpArgs false
set_option linter.unusedVariables false
set_option linter.unnecessarySimpa false
namespace Go.Proofs.Ytiamjjeflmcgoaa
open Go.Eng Go.Pi
theorem linr_frz (n0 : Nat) (h : Hp) (n : Nat) (p : Lin) : ∀ d ∈ linr p, frz n0 h n d = d := by simp [-Option.bind_some, linr]
theorem linr_ok (n : Nat) (p : Lin) : ∀ d ∈ linr p, Ok n d := by
  intro d hd
  simp [-Option.bind_some, linr] at hd
  rcases hd with rfl | rfl | rfl <;> constructor
/-- Lines that follow each other. -/
def chain : Int → List Lin → Int → Prop
  | a, [], b => a = b
  | a, l :: r, b => l.off = a ∧ 1 ≤ l.len ∧ l.len ≤ 36 ∧ l.txt.length + 1 ≤ l.len ∧ chain (a + l.len) r b
theorem chain_snoc : ∀ (ls : List Lin) (a b : Int) (l : Lin), chain a ls b → l.off = b → 1 ≤ l.len → l.len ≤ 36 → l.txt.length + 1 ≤ l.len → chain a (ls ++ [l]) (b + l.len)
  | [], a, b, l, h, h1, h2, h3, h4 => by
    simp only [chain] at h
    subst h
    exact ⟨h1, h2, h3, h4, rfl⟩
  | x :: r, a, b, l, h, h1, h2, h3, h4 => ⟨h.1, h.2.1, h.2.2.1, h.2.2.2.1, chain_snoc r _ b l h.2.2.2.2 h1 h2 h3 h4⟩
def blank (l : Lin) : Lin := { l with txt := [] }
theorem chain_blank : ∀ (ls : List Lin) (a b : Int), chain a ls b → chain a (ls.map blank) b
  | [], a, b, h => h
  | x :: r, a, b, h => ⟨h.1, h.2.1, h.2.2.1, by simp [-Option.bind_some, blank]; exact h.2.1, chain_blank r _ b h.2.2.2.2⟩
theorem chain_le : ∀ (ls : List Lin) (a b : Int), chain a ls b → a + ls.length ≤ b ∧ b ≤ a + 36 * ls.length
  | [], a, b, h => by simp [-Option.bind_some, chain] at h; simp [-Option.bind_some]; omega
  | x :: r, a, b, h => by
    have := chain_le r _ b h.2.2.2.2
    have := h.2.1
    have := h.2.2.1
    simp only [List.length_cons]
    omega
structure It where
  r : Str
  e : Ev
def itr (i : It) : List D := .str i.r :: evr i.e
/-- What an item that is drawn looks like. -/
structure ItOK (hst fil frm : Int) (i : It) : Prop where
  host : i.e.a0 = hst
  file : i.e.a1 = fil
  fr : i.e.a2 = frm
  ch : chain frm i.e.ls i.e.a3
  n1 : 1 ≤ i.e.ls.length
  n3 : i.e.ls.length ≤ 3
  ev : i.r = [] → 0 ≤ i.e.a5 ∧ i.e.a5 ≤ 253402300799999 ∧ 1 ≤ i.e.a6 ∧ i.e.a6 ≤ 5040 ∧ i.e.s7 ∈ lt98_5 ∧ i.e.s8 ∈ lt98_6 ∧ FsOK i.e.fs ∧ ∀ l ∈ i.e.ls, l.len ≤ l.txt.length + 2
  sk : i.r ≠ [] → i.r ∈ lt98_4 ∧ i.e.a5 = 0 ∧ i.e.a6 = 0 ∧ i.e.s7 = [] ∧ i.e.s8 = [] ∧ i.e.fs = [] ∧ ∀ l ∈ i.e.ls, l.txt = []
theorem set_blank (ls : List Lin) (i : Nat) (hi : i < ls.length) : (((ls.take i).map blank ++ ls.drop i).map linr).set i (linr (blank ls[i])) = ((ls.take (i + 1)).map blank ++ ls.drop (i + 1)).map linr := by
  rw [List.drop_eq_getElem_cons hi, List.take_add_one, List.getElem?_eq_getElem hi]
  simp only [List.map_append, List.map_cons, Option.toList_some, List.map_nil]
  rw [List.set_append_right _ _ (by simp [-Option.bind_some]; omega)]
  simp [-Option.bind_some, Nat.min_eq_left (Nat.le_of_lt hi)]
theorem get_blank (ls : List Lin) (i : Nat) (hi : i < ls.length) : (((ls.take i).map blank ++ ls.drop i).map linr)[i]? = some (linr ls[i]) := by
  rw [List.drop_eq_getElem_cons hi, List.getElem?_map, List.getElem?_append_right (by simp [-Option.bind_some]; omega)]
  simp [-Option.bind_some, Nat.min_eq_left (Nat.le_of_lt hi)]
  exact ⟨_, List.getElem?_eq_getElem hi, rfl⟩
theorem itr_ok (n : Nat) (i : It) : Ok n (.agg (itr i)) := by
  refine .agg _ fun d hd => ?_
  simp [-Option.bind_some, itr, evr] at hd
  rcases hd with rfl | rfl | rfl | rfl | rfl | rfl | rfl | rfl | rfl | rfl | rfl
  all_goals first | exact slof_ok i.e.hld (fun a _ => linr_ok _ a) | exact slof_ok i.e.hfd (fun a _ => fld_ok _ a) | constructor
theorem ldob {h : Hp} {q T z : Nat} {cs : List D} (hq : h[q]? = some (.row T z [cs])) (hl : cs.length = 10) : dLoad tab h 31 (.ptr q 0 0) = some (.agg cs) := by
  rw [ldp31, row_of hq]
  simp [-Option.bind_some, takeN, hl]
  exact List.take_of_length_le (by omega)
theorem ldob11 {h : Hp} {q T z : Nat} {cs : List D} (hq : h[q]? = some (.row T z [cs])) (hl : cs.length = 11) : dLoad tab h 74 (.ptr q 0 0) = some (.agg cs) := by
  rw [ldp74, row_of hq]
  simp [-Option.bind_some, takeN, hl]
  exact List.take_of_length_le (by omega)
theorem lt98_4_ne : ∀ s ∈ lt98_4, s ≠ [] := by decide
theorem one_cells {d : D} (h : d.one = true) : cells1 d = [d] ∧ d.okv = true := by cases d <;> first | exact ⟨rfl, rfl⟩ | (simp [-Option.bind_some, D.one] at h)
theorem d84 {h : Hp} {o : Nat} (hc : CD h o) (host file fr : Int) (hf0 : 0 ≤ fr) (hf1 : fr ≤ 1000000000) : ∃ i h', R 84 [.ptr o 0 0, .int .i64 host, .int .i64 file, .int .i64 fr] h = some (.agg (itr i), h') ∧ CD h' o ∧ Same o h h' ∧ ItOK host file fr i := by
  suffices Wp (R 84 [.ptr o 0 0, .int .i64 host, .int .i64 file, .int .i64 fr] h) (fun p => ∃ i, p.1 = .agg (itr i) ∧ CD p.2 o ∧ Same o h p.2 ∧ ItOK host file fr i) by
    obtain ⟨⟨x, h'⟩, h1, i, rfl, h2⟩ := this
    exact ⟨i, h', h1, h2⟩
  have ho := hc.lt
  rw [e84]
  simp only [F84, bs, Option.bind_assoc, bd31_0_1_2]
  generalize hg0 : dNew (dNew h 74 11 [[.str [], .int .i64 0, .int .i64 0, .int .i64 0, .int .i64 0, .nils, .int .i64 0, .int .i64 0, .str [], .str [], .nils]]) 31 10 [[.int .i64 0, .int .i64 0, .int .i64 0, .int .i64 0, .nils, .int .i64 0, .int .i64 0, .str [], .str [], .nils]] = g0
  have S0 : St h o g0 := (St.refl hc).app (by simp [-Option.bind_some, ← hg0, dNew]) (fun q hq => by simp only [← hg0, dNew]; rw [List.getElem?_append_left (by simp [-Option.bind_some]; omega), List.getElem?_append_left hq])
  have p8 : g0[h.length]? = some (.row 74 11 [[.str [], .int .i64 0, .int .i64 0, .int .i64 0, .int .i64 0, .nils, .int .i64 0, .int .i64 0, .str [], .str [], .nils]]) := by
    simp only [← hg0, dNew]; rw [List.getElem?_append_left (by simp [-Option.bind_some]), List.getElem?_append_right (Nat.le_refl _)]; simp [-Option.bind_some]
  have p9 : g0[h.length + 1]? = some (.row 31 10 [[.int .i64 0, .int .i64 0, .int .i64 0, .int .i64 0, .nils, .int .i64 0, .int .i64 0, .str [], .str [], .nils]]) := by
    simp only [← hg0, dNew]; rw [List.getElem?_append_right (by simp [-Option.bind_some])]; simp [-Option.bind_some]
  have hl9 : (dNew h 74 11 [[.str [], .int .i64 0, .int .i64 0, .int .i64 0, .int .i64 0, .nils, .int .i64 0, .int .i64 0, .str [], .str [], .nils]]).length = h.length + 1 := by simp [-Option.bind_some, dNew]
  rw [hl9]
  clear hl9 hg0
  have sm : ∀ {a b : Hp}, Same (h.length + 1) a b → Grow h.length o a b := fun s => ⟨Nat.le_of_eq s.1.symm, fun q hq _ => s.2 q (by omega)⟩
  refine wst31 p9 (by rfl) (by rfl) (by simp [-Option.bind_some]) (by rfl) fun g1 q9 sg => ?_
  replace q9 : g1[h.length + 1]? = some (.row 31 10 [[.int .i64 host, .int .i64 file, .int .i64 fr, .int .i64 0, .nils, .int .i64 0, .int .i64 0, .str [], .str [], .nils]]) := q9
  replace p8 := (sg.2 h.length (by omega)).trans p8
  have S1 : St h o g1 := S0.app (Nat.le_of_eq sg.1.symm) fun q hq => sg.2 q (by omega)
  clear p9 sg S0
  obtain ⟨v, h1, e1, c1, s1, v0, v1⟩ := next_b S1.cd 3 (by omega) (by omega)
  replace q9 := (s1.2 (h.length + 1) (by omega)).trans q9
  replace p8 := (s1.2 h.length (by omega)).trans p8
  have S2 := S1.next c1 s1
  refine Wp.step e1 ?_
  simp only [dBin_add, bs]
  rw [wrap_i64 (n := 1 + v) (by omega) (by omega)]
  refine Wp.loop (fun k ds g => ∃ po : Int, ∃ a b c x, ∃ ls : List Lin, ds = [.int .i64 po, .int .i64 k, a, b, c] ∧ St h o g ∧ g[h.length]? = some (.row 74 11 [[.str [], .int .i64 0, .int .i64 0, .int .i64 0, .int .i64 0, .nils, .int .i64 0, .int .i64 0, .str [], .str [], .nils]])
      ∧ g[h.length + 1]? = some (.row 31 10 [[.int .i64 host, .int .i64 file, .int .i64 fr, .int .i64 0, x, .int .i64 0, .int .i64 0, .str [], .str [], .nils]]) ∧ Own g (h.length + 2) 78 3 (ls.map linr) x ∧ chain fr ls po ∧ ls.length + k = (1 + v).toNat ∧ ∀ l ∈ ls, l.len ≤ l.txt.length + 2)
    (fun r => r.1 = .ext 0 ∧ ∃ po : Int, ∃ a b c d x, ∃ ls : List Lin, r.2.1 = [.int .i64 po, a, b, c, d] ∧ St h o r.2.2 ∧ r.2.2[h.length]? = some (.row 74 11 [[.str [], .int .i64 0, .int .i64 0, .int .i64 0, .int .i64 0, .nils, .int .i64 0, .int .i64 0, .str [], .str [], .nils]])
      ∧ r.2.2[h.length + 1]? = some (.row 31 10 [[.int .i64 host, .int .i64 file, .int .i64 fr, .int .i64 0, x, .int .i64 0, .int .i64 0, .str [], .str [], .nils]]) ∧ Own r.2.2 (h.length + 2) 78 3 (ls.map linr) x ∧ chain fr ls po ∧ 1 ≤ ls.length ∧ ls.length ≤ 3 ∧ ∀ l ∈ ls, l.len ≤ l.txt.length + 2)
    (1 + v).toNat ⟨fr, .any, .any, .any, .nils, [], by rw [Int.toNat_of_nonneg (by omega)], S2, p8, q9, Own.nils _ _ _ _, rfl, by simp [-Option.bind_some], by simp [-Option.bind_some]⟩ ?_ ?_
  · clear e1 S1 S2 q9 p8 c1 s1
    rintro k ds g ⟨po, a, b, c, x, ls, rfl, S, p8, p9, ow, hch, hk, htx⟩
    simp only [F84_L0, nth_zero, nth_succ, bs, dBin_gtr]
    refine Wp.dif ?_ ?_
    · intro h0
      have h0 : 0 < (k : Int) := by simpa [-Option.bind_some] using h0
      obtain ⟨t, g1, e1, c1, s1, ht⟩ := d96 S.cd
      have S1 := S.next c1 s1
      refine Wp.step e1 ?_
      simp only [len9, dBin_add, bs]
      obtain ⟨u, g2, e2, c2, s2, u0, u1⟩ := next_b c1 2 (by omega) (by omega)
      have S2 := S1.next c2 s2
      have s12 := s1.trans s2
      replace p9 := (s12.2 (h.length + 1) (by omega)).trans p9
      replace p8 := (s12.2 h.length (by omega)).trans p8
      replace ow := ow.same s12 (by omega)
      refine Wp.step e2 ?_
      have w1 := wrap_i64 (n := (t.length : Int) + 1) (by omega) (by omega)
      have w2 := wrap_i64 (n := (t.length : Int) + 1 + u) (by omega) (by omega)
      simp only [bs, Option.bind_assoc, dBin_add, w1, w2, fap31_4, ldp28, row_of p9, List.getElem?_cons_zero, bs, Nat.zero_add, List.drop_succ_cons, List.drop_zero, List.head?_cons, bd78_0_1_2, bs28_1]
      have hlt : h.length + 1 < g2.length := (List.getElem?_eq_some_iff.1 p9).1
      have hcl := chain_le _ _ _ hch
      refine wap28 (by omega) ow (rowsOf_sl _ _ _ _) (by simp [-Option.bind_some]; omega) fun x' g3 ow3 len bel keep _ => ?_
      have S3 := S2.app len fun q hq => bel q (by omega)
      replace p9 := (bel (h.length + 1) (by omega)).trans p9
      replace p8 := (bel h.length (by omega)).trans p8
      simp only [bs]
      refine wst28 p9 (by rfl) (by cases x' <;> first | rfl | (have := own_one ow3; simp [-Option.bind_some, D.one] at this)) (by simp [-Option.bind_some]) (by cases x' <;> first | rfl | (have := own_one ow3; simp [-Option.bind_some, D.one] at this)) fun g4 p9' sg => ?_
      have hc1 : cells1 x' = [x'] := by cases x' <;> first | rfl | (have := own_one ow3; simp [-Option.bind_some, D.one] at this)
      rw [hc1] at p9'
      replace p9 : g4[h.length + 1]? = some (.row 31 10 [[.int .i64 host, .int .i64 file, .int .i64 fr, .int .i64 0, x', .int .i64 0, .int .i64 0, .str [], .str [], .nils]]) := p9'
      replace p8 := (sg.2 h.length (by omega)).trans p8
      have S4 : St h o g4 := S3.app (Nat.le_of_eq sg.1.symm) fun q hq => sg.2 q (by omega)
      have ow4 := ow3.keep (h' := g4) fun q hq _ => sg.2 q (by omega)
      have w3 := wrap_i64 (n := po + ((t.length : Int) + 1 + u)) (by omega) (by omega)
      have hk1 : IntKind.wrap .i64 ((k : Int) - 1) = ((k - 1 : Nat) : Int) := by
        rw [wrap_i64 (by omega) (by omega)]; omega
      simp only [dBin_add, bs, dBin_sub, w3, hk1]
      refine .some (.inl ⟨rfl, k - 1, by omega, _, _, _, _, x', ls ++ [⟨po, (t.length : Int) + 1 + u, t⟩], rfl, S4, p8, p9, by rw [List.map_append]; exact ow4, chain_snoc _ _ _ _ hch rfl (by simp [-Option.bind_some]; omega) (by simp [-Option.bind_some]; omega) (by simp [-Option.bind_some]; omega), by simp [-Option.bind_some]; omega, ?_⟩)
      intro l hl
      rcases List.mem_append.1 hl with hl | hl
      · exact htx l hl
      · simp [-Option.bind_some] at hl; subst hl; simp [-Option.bind_some]; omega
    · intro h0
      have h0 : ¬ 0 < (k : Int) := by simpa [-Option.bind_some] using h0
      exact .some (.inr ⟨by simp [-Option.bind_some], rfl, _, _, _, _, _, x, ls, rfl, S, p8, p9, ow, hch, by omega, by omega, htx⟩)
  · clear e1 S1 S2 q9 p8 c1 s1
    rintro ⟨ex, ds, g⟩ ⟨rfl, po, a, b, c, d, x, ls, rfl, S, p8, p9, ow, hch, hl1, hl3, htx⟩
    simp only [unblk_self, toEnd_nrm, nth_zero, bs, fap31_3]
    refine wst3 p9 (by rfl) (by rfl) (by simp [-Option.bind_some]) (by rfl) fun g1 p9' sg => ?_
    replace p9 : g1[h.length + 1]? = some (.row 31 10 [[.int .i64 host, .int .i64 file, .int .i64 fr, .int .i64 po, x, .int .i64 0, .int .i64 0, .str [], .str [], .nils]]) := p9'
    replace p8 := (sg.2 h.length (by omega)).trans p8
    have S1 : St h o g1 := S.app (Nat.le_of_eq sg.1.symm) fun q hq => sg.2 q (by omega)
    have ow1 := ow.keep (h' := g1) fun q hq _ => sg.2 q (by omega)
    clear S sg p9' ow
    obtain ⟨v, g2, e2, c2, s2, v0, v1⟩ := next_b S1.cd 5 (by omega) (by omega)
    replace p9 := (s2.2 (h.length + 1) (by omega)).trans p9
    replace p8 := (s2.2 h.length (by omega)).trans p8
    have S2 := S1.next c2 s2
    have ow2 := ow1.same s2 (by omega)
    refine Wp.step e2 ?_
    simp only [dBin_eql, bs]
    refine Wp.dif ?_ ?_
    · intro _
      refine Wp.loop (fun k ds g => ∃ b, ∃ i : Nat, ds = [.int .i64 i, b] ∧ St h o g ∧ g[h.length]? = some (.row 74 11 [[.str [], .int .i64 0, .int .i64 0, .int .i64 0, .int .i64 0, .nils, .int .i64 0, .int .i64 0, .str [], .str [], .nils]])
        ∧ g[h.length + 1]? = some (.row 31 10 [[.int .i64 host, .int .i64 file, .int .i64 fr, .int .i64 po, x, .int .i64 0, .int .i64 0, .str [], .str [], .nils]]) ∧ Own g (h.length + 2) 78 3 (((ls.take i).map blank ++ ls.drop i).map linr) x ∧ k + i = ls.length)
        (fun r => r.1 = .ext 2 ∧ ∃ a b, r.2.1 = [a, b] ∧ St h o r.2.2 ∧ r.2.2[h.length]? = some (.row 74 11 [[.str [], .int .i64 0, .int .i64 0, .int .i64 0, .int .i64 0, .nils, .int .i64 0, .int .i64 0, .str [], .str [], .nils]])
        ∧ r.2.2[h.length + 1]? = some (.row 31 10 [[.int .i64 host, .int .i64 file, .int .i64 fr, .int .i64 po, x, .int .i64 0, .int .i64 0, .str [], .str [], .nils]]) ∧ Own r.2.2 (h.length + 2) 78 3 ((ls.map blank).map linr) x) ls.length ⟨.any, 0, rfl, S2, p8, p9, by simpa [-Option.bind_some] using ow2, rfl⟩ ?_ ?_
      · clear S1 ow1 e2 c2 s2 S2 p8 p9 ow2
        rintro k ds g ⟨b, i, rfl, S, p8, p9, ow, hk⟩
        have hlen : (((ls.take i).map blank ++ ls.drop i).map linr).length = ls.length := by simp [-Option.bind_some]; omega
        have hlo := leno28 ow
        rw [hlen] at hlo
        simp only [F84_L1, nth_zero, nth_succ, bs, Option.bind_assoc, fap31_4, ldp28, row_of p9, List.getElem?_cons_zero, Nat.zero_add, List.drop_succ_cons, List.drop_zero, List.head?_cons, hlo, dBin_lss]
        refine Wp.dif ?_ ?_
        · intro h0
          have hi : i < ls.length := by have : (i : Int) < ls.length := by simpa [-Option.bind_some] using h0
                                        omega
          obtain ⟨ob, hob, rfl, hgo⟩ := own_ix ow (i := i) (by rw [hlen]; exact hi)
          rw [hlen] at *
          have hil : (i : Int) < ls.length := by omega
          have hw : IntKind.wrap .i64 ((i : Int) + 1) = ((i + 1 : Nat) : Int) := by
            rw [wrap_i64 (by omega) (by omega)]; omega
          simp only [ixm28, Int.natCast_nonneg, hil, and_self, if_true, Nat.zero_add, Int.toNat_natCast, bs, fap78_2]
          refine wst9 hgo (get_blank ls i hi) (by rfl) (by simp [-Option.bind_some, linr]) (by rfl) fun g1 hg1 sg => ?_
          have hset : (((ls.take i).map blank ++ ls.drop i).map linr).set i (spl (linr ls[i]) 2 (cells1 (.str []))) = ((ls.take (i + 1)).map blank ++ ls.drop (i + 1)).map linr := set_blank ls i hi
          rw [hset] at hg1
          simp only [dBin_add, bs, hw]
          refine .some (.inl ⟨rfl, k - 1, by omega, _, i + 1, rfl, S.app (Nat.le_of_eq sg.1.symm) fun q hq => sg.2 q (by omega), (sg.2 _ (by omega)).trans p8, (sg.2 _ (by omega)).trans p9, ?_, by omega⟩)
          refine .inr ⟨ob, hob, ?_, hg1⟩
          congr 1
          simp [-Option.bind_some]; omega
        · intro h0
          have hi : i = ls.length := by have : ¬ (i : Int) < ls.length := by simpa [-Option.bind_some] using h0
                                        omega
          subst hi
          refine .some (.inr ⟨by simp [-Option.bind_some], rfl, _, _, rfl, S, p8, p9, by simpa [-Option.bind_some] using ow⟩)
      · clear S1 ow1 e2 c2 s2 S2 p8 p9 ow2
        rintro ⟨ex, ds, g⟩ ⟨rfl, a, b, rfl, S, p8, p9, ow⟩
        simp only [unblk_self, toEnd_nrm, nth_zero, bs, lt98_4_ok]
        obtain ⟨v, g1, e1, c1, s1, v0, v1⟩ := next_b S.cd 3 (by omega) (by omega)
        obtain ⟨s, hs, hg⟩ := pick_of lt98_4 v v0 v1
        have p9' := (s1.2 (h.length + 1) (by omega)).trans p9
        replace p8 := (s1.2 h.length (by omega)).trans p8
        have S1 := S.next c1 s1
        have ow1 := ow.same s1 (by omega)
        refine Wp.step e1 ?_
        simp only [ix98, v0, if_true, List.getElem?_map, hg, Option.map_some, bs, ld9, ldob p9' rfl, ldob p9 rfl, bd74_0_1, chk_true]
        refine wst74 p8 (by rfl) (by rfl) (by simp [-Option.bind_some]) (by rfl) fun g2 q8 sg => ?_
        replace q8 : g2[h.length]? = some (.row 74 11 [[.str s, .int .i64 host, .int .i64 file, .int .i64 fr, .int .i64 po, x, .int .i64 0, .int .i64 0, .str [], .str [], .nils]]) := q8
        have S2 : St h o g2 := S1.app (Nat.le_of_eq sg.1.symm) fun q hq => sg.2 q (by omega)
        have ow2 := ow1.keep (h' := g2) fun q hq _ => sg.2 q (by omega)
        simp only [ldob11 q8 rfl, bs, mkRes_one]
        have hsl := own_sl (n0 := h.length) (n := 2) ow2 (by omega) (fun a _ => linr_frz _ g2 _ a)
        have hsl2 := lt98_4_ne s hs
        obtain ⟨h', hsc, hcd, hsm⟩ := S2.scope (d := .agg [.str s, .int .i64 host, .int .i64 file, .int .i64 fr, .int .i64 po, x, .int .i64 0, .int .i64 0, .str [], .str [], .nils]) (d' := .agg (itr ⟨s, ⟨host, file, fr, po, ls.map blank, frz h.length g2 3 x, 0, 0, [], [], [], .nils, SlOf.nils _ _, by simp [-Option.bind_some], hsl, by simp [-Option.bind_some]; omega⟩⟩)) (by simp [-Option.bind_some, itr, evr]) (itr_ok _ _)
        rw [hsc]
        refine .some ⟨_, rfl, hcd, hsm, ⟨rfl, rfl, rfl, chain_blank _ _ _ hch, by simpa [-Option.bind_some] using hl1, by simpa [-Option.bind_some] using hl3, fun h0 => absurd h0 hsl2, fun _ => ⟨hs, rfl, rfl, rfl, rfl, rfl, ?_⟩⟩⟩
        intro l hl
        simp [-Option.bind_some] at hl
        obtain ⟨l0, _, rfl⟩ := hl
        rfl
    · intro _
      clear e2 v0 v1
      obtain ⟨tm, g3, e3, c3, s3, t0, t1⟩ := d35 c2
      refine Wp.step e3 ?_
      simp only [bs]
      obtain ⟨wt, g4, e4, c4, s4, w0, w1⟩ := d97 c3
      refine Wp.step e4 ?_
      have s34 := s3.trans s4
      replace p9 := (s34.2 (h.length + 1) (by omega)).trans p9
      replace p8 := (s34.2 h.length (by omega)).trans p8
      have S4 := S2.next c4 s34
      have ow4 := ow2.same s34 (by omega)
      clear e3 e4 S1 S2 c3 s3 c2 s2 s4 s34 ow1 ow2 c4
      simp only [bs, fap31_5, fap31_6, fap31_7, fap31_8, fap31_9, Nat.zero_add]
      refine wst3 p9 (by rfl) (by rfl) (by simp [-Option.bind_some]) (by rfl) fun g5 p9' sg => ?_
      refine wst3 p9' (by rfl) (by rfl) (by simp [-Option.bind_some, spl, cells1]) (by rfl) fun g6 p9'' sg2 => ?_
      replace sg := sg.trans sg2
      replace p9 : g6[h.length + 1]? = some (.row 31 10 [[.int .i64 host, .int .i64 file, .int .i64 fr, .int .i64 po, x, .int .i64 tm, .int .i64 wt, .str [], .str [], .nils]]) := p9''
      replace p8 := (sg.2 h.length (by omega)).trans p8
      have S6 : St h o g6 := S4.app (Nat.le_of_eq sg.1.symm) fun q hq => sg.2 q (by omega)
      have ow6 := ow4.keep (h' := g6) fun q hq _ => sg.2 q (by omega)
      clear p9' p9'' sg sg2 S4 ow4
      simp only [lt98_5_ok, bs]
      obtain ⟨v, g7, e7, c7, s7, v0, v1⟩ := next_b S6.cd 4 (by omega) (by omega)
      obtain ⟨tr, htr, hg⟩ := pick_of lt98_5 v v0 v1
      refine Wp.step e7 ?_
      simp only [ix98, v0, if_true, List.getElem?_map, hg, Option.map_some, bs, ld9, lt98_6_ok]
      obtain ⟨v, g8, e8, c8, s8, v0, v1⟩ := next_b c7 2 (by omega) (by omega)
      obtain ⟨sm', hsm, hg⟩ := pick_of lt98_6 v v0 v1
      refine Wp.step e8 ?_
      simp only [ix98, v0, if_true, List.getElem?_map, hg, Option.map_some, bs, ld9, chk_true]
      have s78 := s7.trans s8
      replace p9 := (s78.2 (h.length + 1) (by omega)).trans p9
      replace p8 := (s78.2 h.length (by omega)).trans p8
      have S8 := S6.next c8 s78
      have ow8 := ow6.same s78 (by omega)
      clear e7 e8 S6 c7 s7 s8 s78 ow6 c8
      refine wst9 p9 (by rfl) (by rfl) (by simp [-Option.bind_some]) (by rfl) fun g9 p9' sg => ?_
      refine wst9 p9' (by rfl) (by rfl) (by simp [-Option.bind_some, spl, cells1]) (by rfl) fun g10 p9'' sg2 => ?_
      replace sg := sg.trans sg2
      replace p9 : g10[h.length + 1]? = some (.row 31 10 [[.int .i64 host, .int .i64 file, .int .i64 fr, .int .i64 po, x, .int .i64 tm, .int .i64 wt, .str tr, .str sm', .nils]]) := p9''
      replace p8 := (sg.2 h.length (by omega)).trans p8
      have S10 : St h o g10 := S8.app (Nat.le_of_eq sg.1.symm) fun q hq => sg.2 q (by omega)
      have ow10 := ow8.keep (h' := g10) fun q hq _ => sg.2 q (by omega)
      clear p9' p9'' sg sg2 S8 ow8
      obtain ⟨y, g11, e11, c11, s11, fs, hy, hfs⟩ := d98 S10.cd
      refine Wp.step e11 ?_
      replace p9 := (s11.2 (h.length + 1) (by omega)).trans p9
      replace p8 := (s11.2 h.length (by omega)).trans p8
      have S11 := S10.next c11 s11
      have ow11 := ow10.same s11 (by omega)
      have oc := one_cells (slof_one hy)
      refine wst29 p9 (by rfl) (by rw [oc.1]; rfl) (by simp [-Option.bind_some]) oc.2 fun g12 p9' sg => ?_
      rw [oc.1] at p9'
      replace p9 : g12[h.length + 1]? = some (.row 31 10 [[.int .i64 host, .int .i64 file, .int .i64 fr, .int .i64 po, x, .int .i64 tm, .int .i64 wt, .str tr, .str sm', y]]) := p9'
      replace p8 := (sg.2 h.length (by omega)).trans p8
      have S12 : St h o g12 := S11.app (Nat.le_of_eq sg.1.symm) fun q hq => sg.2 q (by omega)
      have ow12 := ow11.keep (h' := g12) fun q hq _ => sg.2 q (by omega)
      clear e11 S11 ow11 S10 ow10 s11 c11 sg p9'
      simp only [ldob p9 rfl, bs, bd74_1]
      refine wst74 p8 (by rfl) (by rfl) (by simp [-Option.bind_some]) (by rfl) fun g2 q8 sg => ?_
      replace q8 : g2[h.length]? = some (.row 74 11 [[.str [], .int .i64 host, .int .i64 file, .int .i64 fr, .int .i64 po, x, .int .i64 tm, .int .i64 wt, .str tr, .str sm', y]]) := q8
      have S2 : St h o g2 := S12.app (Nat.le_of_eq sg.1.symm) fun q hq => sg.2 q (by omega)
      have ow2 := ow12.keep (h' := g2) fun q hq _ => sg.2 q (by omega)
      simp only [ldob11 q8 rfl, bs, mkRes_one]
      have hsl := own_sl (n0 := h.length) (n := 2) ow2 (by omega) (fun a _ => linr_frz _ g2 _ a)
      have hfl : fs.length ≤ 4 := by
        have := hfs.1.length_le
        simpa [-Option.bind_some] using this
      have hfy : frz h.length g2 3 y = y := slof_frz hy (fun a _ => fld_frz _ g2 _ a)
      obtain ⟨h', hsc, hcd, hsm2⟩ := S2.scope (d := .agg [.str [], .int .i64 host, .int .i64 file, .int .i64 fr, .int .i64 po, x, .int .i64 tm, .int .i64 wt, .str tr, .str sm', y]) (d' := .agg (itr ⟨[], ⟨host, file, fr, po, ls, frz h.length g2 3 x, tm, wt, tr, sm', fs, y, hy, by omega, hsl, by omega⟩⟩)) (by simp [-Option.bind_some, itr, evr, hfy]) (itr_ok _ _)
      rw [hsc]
      exact .some ⟨_, rfl, hcd, hsm2, ⟨rfl, rfl, rfl, hch, hl1, hl3, fun _ => ⟨t0, t1, w0, w1, htr, hsm, hfs, htx⟩, fun h0 => absurd rfl h0⟩⟩
end Go.Proofs.Ytiamjjeflmcgoaa
