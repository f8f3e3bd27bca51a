import Derived.Test.YtiamjjeflmcgoaaW7
set_option linter.unusedSimpArgs false
set_option linter.unusedVariables false
set_option linter.unnecessarySimpa false
namespace Go.Proofs.Ytiamjjeflmcgoaa
open Go.Eng Go.Pi
theorem itr_frz (n0 : Nat) (h : Hp) (n : Nat) (i : It) : ∀ d ∈ itr i, frz n0 h (n + 1) d = d := by
  intro d hd
  rcases List.mem_cons.1 hd with rfl | hd
  · simp [-Option.bind_some]
  · exact evr_frz n0 h n i.e d hd
theorem itr_oks (n : Nat) (i : It) : ∀ d ∈ itr i, Ok n d := by
  intro d hd
  rcases List.mem_cons.1 hd with rfl | hd
  · exact .str _
  · exact evr_ok n i.e d hd
/-- Items of a file that follow each other. -/
def items (hst fil : Int) : Int → List It → Int → Prop
  | a, [], b => a = b
  | a, i :: r, b => ItOK hst fil a i ∧ items hst fil i.e.a3 r b
theorem items_snoc (hst fil : Int) : ∀ (l : List It) (a b : Int) (i : It), items hst fil a l b → ItOK hst fil b i → items hst fil a (l ++ [i]) i.e.a3
  | [], a, b, i, h, hi => by
    simp only [items] at h
    subst h
    exact ⟨hi, rfl⟩
  | x :: r, a, b, i, h, hi => ⟨h.1, items_snoc hst fil r _ b i h.2 hi⟩
theorem items_mem (hst fil : Int) : ∀ (l : List It) (a b : Int), items hst fil a l b → ∀ i ∈ l, ∃ f, ItOK hst fil f i
  | [], _, _, _, i, hi => by cases hi
  | x :: r, a, b, h, i, hi => by
    rcases List.mem_cons.1 hi with rfl | hi
    · exact ⟨_, h.1⟩
    · exact items_mem hst fil r _ _ h.2 i hi
theorem boxIt (i : It) : boxN 11 (.agg (itr i)) = some (.fptr (itr i)) := boxN_agg 11 _ rfl
theorem ldIt (i : It) (h : Hp) : dLoad tab h 74 (.fptr (itr i)) = some (.agg (itr i)) := by simp [-Option.bind_some, itr, evr]
theorem bsIt (i : It) : pLitF tab 113 1 [0] [.agg (itr i)] = some (.sl 11 true [itr i]) := by simp [-Option.bind_some, itr, evr]
theorem toIt (i : It) (h : Hp) : ((dFieldAddr tab 74 1 (.fptr (itr i))).bind fun p => (dFieldAddr tab 31 3 p).bind fun q => dLoad tab h 3 q) = some (.int .i64 i.e.a3) := by simp [-Option.bind_some, itr, evr]
theorem own_dis {h : Hp} {n e z n' e' z' q : Nat} {rows rows' : List (List D)} {d d' : D} (a : Own h n e z rows d) (b : Own h n' e' z' rows' d') (hne : e ≠ e') (hd : d.inOb q) : ¬ d'.inOb q := by
  rintro ⟨z2, m2, rfl⟩
  obtain ⟨z1, m1, rfl⟩ := hd
  rcases a with ⟨ha, _⟩ | ⟨o1, _, ha, ga⟩
  · cases ha
  rcases b with ⟨hb, _⟩ | ⟨o2, _, hb, gb⟩
  · cases hb
  injection ha with _ ha
  injection hb with _ hb
  subst ha; subst hb
  rw [ga] at gb
  injection gb with gb
  injection gb with gb
  exact hne gb
/-- What the files are so far. -/
def FilesOK (host most : Int) (P : List It → D → Prop) (ps : List (List It × D)) : Prop := ∀ (f : Nat) p, ps[f]? = some p → P p.1 p.2 ∧ p.1.length ≤ most ∧ ∃ po, items host (5 + f) 0 p.1 po
theorem FilesOK.mono {host most : Int} {P P' : List It → D → Prop} {ps : List (List It × D)} (h : FilesOK host most P ps) (k : ∀ a b, P a b → P' a b) : FilesOK host most P' ps := fun f p hp => ⟨k _ _ (h f p hp).1, (h f p hp).2⟩
theorem l71 {o N : Nat} (host most f : Int) (n0 : Nat) (ho : o < n0) (hN : n0 ≤ N) (ds0 : List D) (hds0 : nth 1 ds0 = .int .i64 f) (hf0 : 0 ≤ f) (hf1 : f ≤ 1000) {β : Type} {K : Out → Option β} {Q : β → Prop} (g : Hp) (n : Nat) (hn : n ≤ 1000) (a b : D) (hc : CD g o) (hNg : N ≤ g.length)
    (k : ∀ g' its po x a b c, Own g' N 74 11 (its.map itr) x → CD g' o → Grow N o g g' → items host (5 + f) 0 its po → its.length = n → Wp (K (.ext 2, [x, .int .i64 po, a, b, c], g')) Q) :
    Wp ((loopW (F71_L1 (.ptr o 0 0) (.int .i64 host) ds0) [.nils, .int .i64 0, .int .i64 n, a, b] g).bind K) Q := by
  refine Wp.loop (fun k ds g' => ∃ x po a b, ∃ its : List It, ds = [x, .int .i64 po, .int .i64 k, a, b] ∧ Own g' N 74 11 (its.map itr) x ∧ CD g' o ∧ Grow N o g g' ∧ items host (5 + f) 0 its po ∧ 0 ≤ po ∧ po ≤ 108 * its.length ∧ its.length + k = n)
    (fun r => r.1 = .ext 2 ∧ ∃ x po a b c, ∃ its : List It, r.2.1 = [x, .int .i64 po, a, b, c] ∧ Own r.2.2 N 74 11 (its.map itr) x ∧ CD r.2.2 o ∧ Grow N o g r.2.2 ∧ items host (5 + f) 0 its po ∧ its.length = n)
    n ⟨.nils, 0, a, b, [], rfl, Own.nils _ _ _ _, hc, .refl _ _ _, rfl, by omega, by simp [-Option.bind_some], by simp [-Option.bind_some]⟩ ?_ ?_
  · rintro k ds g' ⟨x, po, a, b, its, rfl, ow, hc', hg, hit, hp0, hp1, hk⟩
    simp only [F71_L1, nth_zero, nth_succ, bs, dBin_gtr, hds0, dBin_add, wrap_i64 (n := 5 + f) (by omega) (by omega)]
    refine Wp.dif ?_ ?_
    · intro h0
      have h0 : 0 < (k : Int) := by simpa [-Option.bind_some] using h0
      obtain ⟨i, g1, e1, c1, s1, hi⟩ := d84 hc' host (5 + f) po hp0 (by omega)
      have hcl := chain_le _ _ _ hi.ch
      have hn3 := hi.n3
      have hn1 := hi.n1
      have ow1 := ow.same s1 (by omega)
      refine Wp.step e1 ?_
      simp only [boxIt, bs, ldIt, bsIt]
      refine wap113 (by have := hg.1; have := s1.1; omega) ow1 (rowsOf_sl _ _ _ _) (by simp [-Option.bind_some]; omega) fun x' g2 ow2 len bel _ _ => ?_
      have hto := toIt i g2
      cases hfa : dFieldAddr tab 74 1 (.fptr (itr i)) with
      | none => rw [hfa] at hto; cases hto
      | some p =>
        rw [hfa] at hto
        simp only [bs] at hto
        cases hfb : dFieldAddr tab 31 3 p with
        | none => rw [hfb] at hto; cases hto
        | some q =>
          rw [hfb] at hto
          simp only [bs] at hto
          have hk1 : IntKind.wrap .i64 ((k : Int) - 1) = ((k - 1 : Nat) : Int) := by
            rw [wrap_i64 (by omega) (by omega)]; omega
          simp only [bs, hfa, hfb, hto, dBin_sub, hk1]
          refine .some (.inl ⟨rfl, k - 1, by omega, x', i.e.a3, _, _, its ++ [i], rfl, by rw [List.map_append]; exact ow2, c1.keep (bel o (by omega)), (hg.trans s1.grow).trans ⟨len, fun q hq _ => bel q hq⟩, items_snoc _ _ _ _ _ _ hit hi, by omega, by simp [-Option.bind_some]; omega, by simp [-Option.bind_some]; omega⟩)
    · intro h0
      have h0 : ¬ 0 < (k : Int) := by simpa [-Option.bind_some] using h0
      exact .some (.inr ⟨by simp [-Option.bind_some], rfl, x, po, _, _, _, its, rfl, ow, hc', hg, hit, by omega⟩)
  · rintro ⟨ex, ds, g'⟩ ⟨rfl, x, po, a, b, c, its, rfl, ow, hc', hg, hit, hn⟩
    exact k g' its po x a b c ow hc' hg hit hn
theorem d71 {h : Hp} {o : Nat} (hc : CD h o) (host most : Int) (hm0 : 0 ≤ most) (hm1 : most ≤ 100) : ∃ x h', R 71 [.ptr o 0 0, .int .i64 host, .int .i64 most] h = some (x, h') ∧ CD h' o ∧ Same o h h' ∧ ∃ ps : List (List It × D), SlOf 1 (fun p => [p.2]) ps x ∧ ps.length ≤ 3 ∧ FilesOK host most (SlOf 11 itr) ps := by
  suffices Wp (R 71 [.ptr o 0 0, .int .i64 host, .int .i64 most] h) (fun p => CD p.2 o ∧ Same o h p.2 ∧ ∃ ps : List (List It × D), SlOf 1 (fun p => [p.2]) ps p.1 ∧ ps.length ≤ 3 ∧ FilesOK host most (SlOf 11 itr) ps) by
    obtain ⟨⟨x, h'⟩, h1, h2⟩ := this
    exact ⟨x, h', h1, h2⟩
  have ho := hc.lt
  rw [e71]
  simp only [F71, bs, Option.bind_assoc]
  refine Wp.loop (fun k ds g => ∃ x a b c d e f', ∃ f : Nat, ∃ ps : List (List It × D), ds = [x, .int .i64 f, a, b, c, d, e, f'] ∧ St h o g ∧ Own g h.length 113 1 (ps.map fun p => [p.2]) x ∧ ps.length = f ∧ k + f = 3 ∧ FilesOK host most (fun l d => Own g h.length 74 11 (l.map itr) d) ps)
    (fun r => r.1 = .ext 0 ∧ ∃ x a b c d e f' h', ∃ ps : List (List It × D), r.2.1 = [x, a, b, c, d, e, f', h'] ∧ St h o r.2.2 ∧ Own r.2.2 h.length 113 1 (ps.map fun p => [p.2]) x ∧ ps.length ≤ 3 ∧ FilesOK host most (fun l d => Own r.2.2 h.length 74 11 (l.map itr) d) ps)
    3 ⟨.nils, .any, .any, .any, .any, .any, .any, 0, [], rfl, .refl hc, Own.nils _ _ _ _, rfl, rfl, fun f p hp => by simp [-Option.bind_some] at hp⟩ ?_ ?_
  · rintro k ds g ⟨x, a, b, c, d, e, f', f, ps, rfl, S, ow, hpf, hk, hps⟩
    simp only [F71_L0, nth_zero, nth_succ, bs, Option.bind_assoc]
    obtain ⟨v, g1, e1, c1, s1, v0, v1⟩ := next_b S.cd 3 (by omega) (by omega)
    have S1 := S.next c1 s1
    have ow1 := ow.same s1 ho
    have hps1 : FilesOK host most (fun l d => Own g1 h.length 74 11 (l.map itr) d) ps := hps.mono fun _ _ w => w.same s1 ho
    refine Wp.step e1 ?_
    simp only [dBin_leq, bs]
    refine Wp.dif ?_ ?_
    · intro h0
      have h0 : (f : Int) ≤ v := by simpa [-Option.bind_some] using h0
      simp only [dBin_add, bs, wrap_i64 (n := most + 1) (by omega) (by omega)]
      obtain ⟨n, g2, e2, c2, s2, n0, n1⟩ := next_b c1 (most + 1) (by omega) (by omega)
      have S2 := S1.next c2 s2
      have ow2 := ow1.same s2 ho
      have hps2 : FilesOK host most (fun l d => Own g2 h.length 74 11 (l.map itr) d) ps := hps1.mono fun _ _ w => w.same s2 ho
      refine Wp.step e2 ?_
      simp only [bs]
      rw [← Int.toNat_of_nonneg n0]
      refine l71 (N := g2.length) host most f h.length ho S2.le _ (by rfl) (by omega) (by omega) g2 n.toNat (by omega) _ _ c2 (Nat.le_refl _) ?_
      intro g3 its po y a' b' c' owy c3 gr hit hlen
      have bel : ∀ q, q < g2.length → q ≠ o → g3[q]? = g2[q]? := gr.2
      have S3 : St h o g3 := ⟨ho, c3, S2.gr.trans ⟨gr.1, fun q hq hn => bel q (by have := S2.le; omega) hn⟩⟩
      have ow3 : Own g3 h.length 113 1 (ps.map fun p => [p.2]) x := ow2.keep fun q hq hin => bel q (ow2.lt hin).2 (by omega)
      have hps3 : FilesOK host most (fun l d => Own g3 h.length 74 11 (l.map itr) d) ps := hps2.mono fun _ _ w => w.keep fun q hq hin => bel q (w.lt hin).2 (by omega)
      have owy' : Own g3 h.length 74 11 (its.map itr) y := owy.from S2.le
      simp only [unblk_self, toEnd_nrm, nth_zero, nth_succ, bs, bs111_1 y (own_one owy)]
      have hw : IntKind.wrap .i64 ((f : Int) + 1) = ((f + 1 : Nat) : Int) := by
        rw [wrap_i64 (by omega) (by omega)]; omega
      refine wap111 S3.le ow3 (rowsOf_sl _ _ _ _) (by simp [-Option.bind_some]; omega) fun x' g4 ow4 len bel4 keep4 _ => ?_
      simp only [bs, hw]
      have kp : ∀ (l : List It) (d : D), Own g3 h.length 74 11 (l.map itr) d → Own g4 h.length 74 11 (l.map itr) d := fun l d w => w.keep fun q hq hin => keep4 q (w.lt hin).2 (own_dis w ow3 (by omega) hin)
      refine .some (.inl ⟨rfl, k - 1, by omega, x', _, _, _, _, _, _, f + 1, ps ++ [(its, y)], rfl, S3.app len bel4, by rw [List.map_append]; exact ow4, by simp [-Option.bind_some]; omega, by omega, fun j p hp => ?_⟩)
      rcases Nat.lt_or_ge j ps.length with hj | hj
      · rw [List.getElem?_append_left hj] at hp
        exact ⟨kp _ _ (hps3 j p hp).1, (hps3 j p hp).2⟩
      · rw [List.getElem?_append_right hj] at hp
        have hj0 : j - ps.length = 0 := by
          have := (List.getElem?_eq_some_iff.1 hp).1
          simpa [-Option.bind_some] using this
        rw [hj0] at hp
        simp [-Option.bind_some] at hp
        subst hp
        have hjf : j = f := by omega
        subst hjf
        exact ⟨kp _ _ owy', by simp only; omega, po, hit⟩
    · intro h0
      exact .some (.inr ⟨by simp [-Option.bind_some], rfl, x, _, _, _, _, _, _, _, ps, rfl, S1, ow1, by omega, hps1⟩)
  · rintro ⟨ex, ds, g⟩ ⟨rfl, x, a, b, c, d, e, f', h', ps, rfl, S, ow, hpl, hps⟩
    simp only [unblk_self, toEnd_nrm, nth_zero, bs, mkRes_one]
    have hfz : SlOf 1 (fun p : List It × D => [p.2]) (ps.map fun p => (p.1, frz h.length g 3 p.2)) (frz h.length g 4 x) := by
      rcases ow with ⟨rfl, hr⟩ | ⟨ob, hob, rfl, hgo⟩
      · have : ps = [] := by simpa [-Option.bind_some] using hr
        subst this
        exact .inl ⟨rfl, rfl⟩
      · right
        refine ⟨false, ?_⟩
        rw [frz_msl hob hgo]
        simp [-Option.bind_some]
        rw [List.take_of_length_le (by simp [-Option.bind_some])]
        rfl
    have hps' : FilesOK host most (SlOf 11 itr) (ps.map fun p => (p.1, frz h.length g 3 p.2)) := by
      intro j p hp
      rw [List.getElem?_map] at hp
      cases hq : ps[j]? with
      | none => rw [hq] at hp; cases hp
      | some q =>
        rw [hq] at hp
        simp [-Option.bind_some] at hp
        subst hp
        exact ⟨own_sl (hps j q hq).1 (Nat.le_refl _) fun a _ => itr_frz _ _ _ a, (hps j q hq).2⟩
    obtain ⟨h', hs, hcd, hsm⟩ := S.scope rfl (slof_ok hfz fun a ha d hd => by
      simp [-Option.bind_some] at hd
      subst hd
      obtain ⟨j, hj⟩ := List.getElem?_of_mem ha
      exact slof_ok (hps' j a hj).1 fun i _ => itr_oks _ i)
    exact ⟨_, hs, hcd, hsm, _, hfz, by simpa [-Option.bind_some] using hpl, hps'⟩
end Go.Proofs.Ytiamjjeflmcgoaa
