/- Laws, on plain data, about functions that the statement reaches. -/
import Derived.Test.YtcblbhamadgjlaaDoorL2
set_option linter.unusedSimpArgs false
set_option linter.unusedVariables false
set_option linter.unnecessarySimpa false
set_option maxRecDepth 100000
namespace Go.Proofs.YtcblbhamadgjlaaDoor
open Go.Eng Go.Pi
theorem u1045 (l : List Lin) (fn : D) (pr : Lin → Bool) (h : Hp) (ob : Nat) (ho : h[ob]? = some (Ob.row ty78 3 (l.map linr))) (hl : l.length ≤ 1000000) (hf : ∀ x g, callV R fn [.agg (linr x)] g = some (.bool (pr x), g)) :
    ∃ h' z, R fn1045 [.msl 3 ob 0 l.length, fn] h = some (.msl 3 ob 0 (l.filter fun x => !pr x).length, h') ∧ Same ob h h' ∧ h'[ob]? = some (Ob.row ty78 3 ((l.filter fun x => !pr x).map linr ++ z)) := by
  suffices Wp (R fn1045 [.msl 3 ob 0 l.length, fn] h) (fun p => p.1 = .msl 3 ob 0 (l.filter fun x => !pr x).length ∧ Same ob h p.2 ∧ ∃ z, p.2[ob]? = some (Ob.row ty78 3 ((l.filter fun x => !pr x).map linr ++ z))) by
    obtain ⟨⟨x, h'⟩, h1, rfl, h2, z, h3⟩ := this
    exact ⟨h', z, h1, h2, h3⟩
  have hlt := (List.getElem?_eq_some_iff.1 ho).1
  have sc : ∀ (g : Hp) (d : D), Same ob h g → True := fun _ _ _ => trivial
  rw [e1045]
  simp only [F1045, bs, Option.bind_assoc, r1006 l _ fn pr h (.inr ⟨ob, rfl, ho⟩) (by omega) (fun x => hf x h), dBin_eql, mkRes_one]
  rcases idx_fil pr l 0 with ⟨h1, h2⟩ | ⟨k, h1, h2, h3, _⟩
  · have hfl : l.filter (fun x => !pr x) = l := by
      rw [List.filter_eq_self]
      intro x hx; simp [-Option.bind_some, h2 x hx]
    simp only [h1, decide_true, dIf_bool, if_true, hfl]
    exact .some ⟨rfl, .refl _ _, [], by simpa [-Option.bind_some] using ho⟩
  · rw [Nat.zero_add] at h1
    have hne : ¬ ((k : Int) = -1) := by omega
    have hw : IntKind.wrap .i64 ((k : Int) + 1) = ((k + 1 : Nat) : Int) := by rw [wrap_i64 (by omega) (by omega)]; omega
    simp only [h1, hne, decide_false, dIf_bool, Bool.false_eq_true, if_false, dBin_add, hw, bs]
    refine Wp.loop (fun n ds g => ∃ (i j : Nat) (a b c : D) (l' : List Lin), n + j = l.length ∧ ds = [.int .i64 i, .int .i64 j, a, b, c] ∧ l'.length = l.length ∧ i < j ∧ g[ob]? = some (Ob.row ty78 3 (l'.map linr)) ∧ Same ob h g ∧ l'.take i = (l.take j).filter (fun x => !pr x) ∧ ∀ q, j ≤ q → l'[q]? = l[q]?)
      (fun r => r.1 = .ext 0 ∧ ∃ (i : Nat) (a b c d : D) (l' : List Lin), r.2.1 = [.int .i64 i, a, b, c, d] ∧ l'.length = l.length ∧ i < l.length ∧ r.2.2[ob]? = some (Ob.row ty78 3 (l'.map linr)) ∧ Same ob h r.2.2 ∧ l'.take i = l.filter (fun x => !pr x))
      (l.length - (k + 1)) ⟨k, k + 1, .any, .any, .any, l, by omega, rfl, rfl, by omega, ho, .refl _ _, h3.symm, fun _ _ => rfl⟩ ?_ ?_
    · rintro n ds g ⟨i, j, a, b, c, l', hn, rfl, hl', hij, hg, sm, htk, hdr⟩
      simp only [F1045_L0, nth_zero, nth_succ, bs, Option.bind_assoc, lenm28, dBin_lss]
      refine Wp.dif ?_ ?_
      · intro h0
        have h0 : j < l.length := by have : (j : Int) < (l.length : Int) := by simpa [-Option.bind_some] using h0
                                     omega
        have gj : l[j]? = some l[j] := List.getElem?_eq_getElem h0
        have gj' : l'[j]? = some l[j] := by rw [hdr j (Nat.le_refl _)]; exact gj
        have hw2 : IntKind.wrap .i64 ((j : Int) + 1) = ((j + 1 : Nat) : Int) := by rw [wrap_i64 (by omega) (by omega)]; omega
        have hw3 : IntKind.wrap .i64 ((i : Int) + 1) = ((i + 1 : Nat) : Int) := by rw [wrap_i64 (by omega) (by omega)]; omega
        have hjj : (0 : Int) ≤ (j : Int) ∧ (j : Int) < (l.length : Int) := by omega
        have hii : (0 : Int) ≤ (i : Int) ∧ (i : Int) < (l.length : Int) := by omega
        have hts : (l.take (j + 1)).filter (fun x => !pr x) = (l.take j).filter (fun x => !pr x) ++ [l[j]].filter (fun x => !pr x) := by
          rw [List.take_add_one, gj, List.filter_append]; rfl
        generalize l[j] = x at gj gj' hts
        have mj : (l'.map linr)[j]? = some (linr x) := by rw [List.getElem?_map, gj']; rfl
        have hbx : boxN 3 (.agg (linr x)) = some (.fptr (linr x)) := boxN_agg 3 _ rfl
        simp only [ixm28, hjj, and_self, if_true, Nat.zero_add, Int.toNat_natCast, bs, ldobL hg mj, hbx, linr_ld, hf, dUn_not]
        cases hp : pr x
        · have hlt2 : i < l'.length := by omega
          have mi : (l'.map linr)[i]? = some (linr l'[i]) := by rw [List.getElem?_map, List.getElem?_eq_getElem hlt2]; rfl
          simp only [Bool.not_false, dIf_bool, if_true, hii, and_self, bs, Option.bind_assoc]
          refine wst78 hg mi (by rfl) (by simp [-Option.bind_some, linr]) (by rfl) fun g2 p2 s2 => ?_
          rw [show spl (linr l'[i]) 0 (cells1 (.agg (linr x))) = linr x from id rfl, set_map_row] at p2
          simp only [bs, dBin_add, hw3, hw2, unblk_nrm, toEnd_nrm, nth_zero]
          refine .some (.inl ⟨rfl, n - 1, by omega, i + 1, j + 1, _, _, _, l'.set i x, by omega, rfl, by simpa [-Option.bind_some] using hl', by omega, p2, sm.trans s2, ?_, fun q hq => ?_⟩)
          · rw [hts, ← htk, List.take_add_one, List.getElem?_set_self (by omega), List.take_set_of_le (Nat.le_refl _)]
            simp [-Option.bind_some, hp]
          · rw [List.getElem?_set_ne (by omega)]; exact hdr q (by omega)
        · simp only [Bool.not_true, dIf_bool, Bool.false_eq_true, if_false, bs, dBin_add, hw2, unblk_nrm, toEnd_nrm, nth_zero]
          refine .some (.inl ⟨rfl, n - 1, by omega, i, j + 1, _, _, _, l', by omega, rfl, hl', by omega, hg, sm, ?_, fun q hq => hdr q (by omega)⟩)
          rw [hts, ← htk]
          simp [-Option.bind_some, hp]
      · intro h0
        have h0 : ¬ j < l.length := by have : ¬ (j : Int) < (l.length : Int) := by simpa [-Option.bind_some] using h0
                                       omega
        refine .some (.inr ⟨by simp [-Option.bind_some], rfl, i, _, _, _, _, l', rfl, hl', by omega, hg, sm, ?_⟩)
        rw [htk, List.take_of_length_le (by omega)]
    · rintro ⟨x, ds, g⟩ ⟨rfl, i, a, b, c, d, l', rfl, hl', hil, hg, sm, htk⟩
      have hK : (l.filter fun x => !pr x).length = i := by rw [← htk]; simp [-Option.bind_some]; omega
      have hs1 : dSliceAt tab ty28 true false false [.msl 3 ob 0 l.length, .int .i64 i] = some (.msl 3 ob i (l.length - i)) :=
        (msl_lo (T := tab) (t := ty28) (e := ty78) (z := 3) (i := ti28) (j := ti78) (id rfl) (id rfl) (id rfl) (id rfl) (by decide) (r := 0) (n := l.length) (m := i) hil (Nat.zero_le _)).trans (by rw [Nat.zero_add])
      have hs2 : dSliceAt tab ty28 false true false [.msl 3 ob 0 l.length, .int .i64 i] = some (.msl 3 ob 0 i) := msl_hi (T := tab) (t := ty28) (e := ty78) (z := 3) (i := ti28) (j := ti78) (id rfl) (id rfl) (id rfl) (id rfl) (by decide) (Nat.le_of_lt hil)
      obtain ⟨z, hz⟩ := clear_msl (T := tab) (t := ty28) (i := ti28) (j := ti78) (h := g) (n := l.length - i) (r := i) (id rfl) (id rfl) (id rfl) (by decide) hg (by omega)
      have hz : dClear tab g ty28 (.msl 3 ob i (l.length - i)) = some (.tup [], g.set ob (Ob.row ty78 3 ((l'.map linr).take i ++ z))) := hz
      have holt : ob < g.length := (List.getElem?_eq_some_iff.1 hg).1
      simp only [unblk_self, toEnd_nrm, nth_zero, nth_succ, bs, hs1, hz, hs2, mkRes_one]
      refine .some ⟨by rw [hK], sm.trans ⟨by simp [-Option.bind_some], fun q hq => List.getElem?_set_ne (Ne.symm hq)⟩, z, ?_⟩
      rw [List.getElem?_set_self holt, ← List.map_take, htk]
/-- An item with the lines from an offset on. -/
structure FltOf (i : It) (m : Int) (j : It) : Prop where
  r : j.r = i.r
  a0 : j.e.a0 = i.e.a0
  a1 : j.e.a1 = i.e.a1
  a3 : j.e.a3 = i.e.a3
  a5 : j.e.a5 = i.e.a5
  a6 : j.e.a6 = i.e.a6
  s7 : j.e.s7 = i.e.s7
  s8 : j.e.s8 = i.e.s8
  ls : j.e.ls = i.e.ls.filter (fun l => decide (m ≤ l.off))
  fs : j.e.fs = i.e.fs
  a2 : ∃ x, (i.e.ls.filter fun l => decide (m ≤ l.off)).head? = some x ∧ j.e.a2 = x.off
def AftOf (i : It) (m : Int) (ok : Bool) (j : It) : Prop :=
  (m ≤ i.e.a2 ∧ ok = true ∧ j = i) ∨ (¬ m ≤ i.e.a2 ∧ (i.e.a3 ≤ m ∨ ∀ l ∈ i.e.ls, l.off < m) ∧ ok = false ∧ j = it0) ∨ (¬ m ≤ i.e.a2 ∧ m < i.e.a3 ∧ (∃ l ∈ i.e.ls, m ≤ l.off) ∧ ok = true ∧ FltOf i m j)
theorem AftOf.same {i j j' : It} {m : Int} {ok ok' : Bool} (h : AftOf i m ok j) (h' : AftOf i m ok' j') : ok = ok' ∧ sameI j j' = true := by
  rcases h with ⟨h1, rfl, rfl⟩ | ⟨h1, h2, rfl, rfl⟩ | ⟨h1, h2, ⟨l, hl, hm⟩, rfl, hf⟩
  · rcases h' with ⟨h1', rfl, rfl⟩ | ⟨h1', _⟩ | ⟨h1', _⟩
    · exact ⟨rfl, sameI_refl _⟩
    · exact absurd h1 h1'
    · exact absurd h1 h1'
  · rcases h' with ⟨h1', _⟩ | ⟨_, _, rfl, rfl⟩ | ⟨_, k2, ⟨l, hl, hm⟩, _⟩
    · exact absurd h1' h1
    · exact ⟨rfl, sameI_refl _⟩
    · rcases h2 with h2 | h2
      · omega
      · have := h2 l hl; omega
  · rcases h' with ⟨h1', _⟩ | ⟨_, k2, rfl, rfl⟩ | ⟨_, _, _, rfl, hf'⟩
    · exact absurd h1' h1
    · rcases k2 with k2 | k2
      · omega
      · have := k2 l hl; omega
    · obtain ⟨x, hx, hx2⟩ := hf.a2
      obtain ⟨y, hy, hy2⟩ := hf'.a2
      rw [hx] at hy
      injection hy with hy
      subst hy
      exact ⟨rfl, by simp [-Option.bind_some, sameI, sameE, hf.r, hf'.r, hf.a0, hf'.a0, hf.a1, hf'.a1, hx2, hy2, hf.a3, hf'.a3, hf.a5, hf'.a5, hf.a6, hf'.a6, hf.s7, hf'.s7, hf.s8, hf'.s8, hf.ls, hf'.ls, hf.fs, hf'.fs]⟩
theorem s1044 (l : Lin) (n : Int) (h : Hp) : R fn1044 [.agg (linr l), .fptr [.int .i64 n]] h = some (.bool (decide (n ≤ l.off)), h) := by
  rw [e1044]
  simp [-Option.bind_some, F1044, linr]
theorem s1046 (l : Lin) (n : Int) (h : Hp) : R fn1046 [.agg (linr l), .fptr [.int .i64 n]] h = some (.bool (decide (l.off < n)), h) := by
  rw [e1046]
  simp [-Option.bind_some, F1046, linr]
theorem ldIt11 {g : Hp} {q T z : Nat} {i : It} (hq : g[q]? = some (Ob.row T z [itr i])) : dLoad tab g ty74 (.ptr q 0 0) = some (.agg (itr i)) := ldob11 hq rfl
theorem end_it {h g : Hp} {j : It} {b : Bool} (hl : h.length ≤ g.length) (hb : ∀ q, q < h.length → g[q]? = h[q]?) : scope h g (.tup [.agg (itr j), .bool b]) = some (.tup [.agg (itr j), .bool b], h) := by
  refine scope_eq ?_ (.tup _ fun d hd => ?_) hl hb
  · simp only [frz_tup, frz_agg, List.map_cons, List.map_nil, frz_bool]
    rw [map_id_of fun d hd => itr_frz h.length g 1 j d hd]
  · simp [-Option.bind_some] at hd
    rcases hd with rfl | rfl
    · exact itr_ok _ _
    · constructor
theorem s1040 (i : It) (m : Int) (h : Hp) (hl : i.e.ls.length ≤ 1000000) : ∃ j ok, R fn1040 [.agg (itr i), .int .i64 m] h = some (.tup [.agg (itr j), .bool ok], h) ∧ AftOf i m ok j := by
  suffices Wp (R fn1040 [.agg (itr i), .int .i64 m] h) (fun p => p.2 = h ∧ ∃ j ok, p.1 = .tup [.agg (itr j), .bool ok] ∧ AftOf i m ok j) by
    obtain ⟨⟨x, h'⟩, h1, rfl, j, ok, rfl, h2⟩ := this
    exact ⟨j, ok, h1, h2⟩
  rw [e1040]
  simp only [F1040, bs, Option.bind_assoc, pBoxF_int]
  rw [wBox_agg ty74 11 h (itr i) rfl (by omega)]
  generalize hg0 : dNew h ty74 11 [itr i] = g0
  have hgl : g0.length = h.length + 1 := by rw [← hg0]; exact new_len _ _ _ _
  have hb : ∀ q, q < h.length → g0[q]? = h[q]? := fun q hq => by rw [← hg0]; exact new_old _ _ _ _ hq
  have p8 : g0[h.length]? = some (Ob.row ty74 11 [itr i]) := by rw [← hg0]; exact new_get _ _ _ _
  clear hg0
  simp only [bs, hgl]
  generalize hg1 : dNew g0 ty74 11 [[.str [], .int .i64 0, .int .i64 0, .int .i64 0, .int .i64 0, .nils, .int .i64 0, .int .i64 0, .str [], .str [], .nils]] = g1
  have hgl1 : g1.length = h.length + 2 := by rw [← hg1, new_len]; omega
  have hb1 : ∀ q, q < h.length + 1 → g1[q]? = g0[q]? := fun q hq => by rw [← hg1]; exact new_old _ _ _ _ (by omega)
  have p9 : g1[h.length + 1]? = some (Ob.row ty74 11 [[.str [], .int .i64 0, .int .i64 0, .int .i64 0, .int .i64 0, .nils, .int .i64 0, .int .i64 0, .str [], .str [], .nils]]) := by
    rw [← hg1, ← hgl]; exact new_get _ _ _ _
  replace p8 := (hb1 h.length (by omega)).trans p8
  replace hb : ∀ q, q < h.length → g1[q]? = h[q]? := fun q hq => (hb1 q (by omega)).trans (hb q hq)
  clear hg1 hb1 hgl
  have r8 : g1.row h.length 0 = some [.str i.r, .int .i64 i.e.a0, .int .i64 i.e.a1, .int .i64 i.e.a2, .int .i64 i.e.a3, i.e.ld, .int .i64 i.e.a5, .int .i64 i.e.a6, .str i.e.s7, .str i.e.s8, i.e.fd] := row_of p8
  simp only [ld3, fap74_1, fap31_2, fap31_3, fap31_4, bs, ldp3, ldp28, r8, List.drop_succ_cons, List.drop_zero, List.head?_cons, Nat.zero_add, dBin_leq]
  refine Wp.dif ?_ ?_
  · intro hm
    have hm : m ≤ i.e.a2 := by simpa [-Option.bind_some] using hm
    simp only [ldIt11 p8, bs]
    refine wst74 p9 (by rfl) (by rfl) (by simp [-Option.bind_some]) (by rfl) fun g2 q9 s2 => ?_
    replace q9 : g2[h.length + 1]? = some (Ob.row ty74 11 [itr i]) := q9
    simp only [ldIt11 q9, bs, mkRes_two]
    rw [end_it (by have := s2.1; omega) (fun q hq => (s2.2 q (by omega)).trans (hb q hq))]
    exact .some ⟨rfl, i, true, rfl, .inl ⟨hm, rfl, rfl⟩⟩
  · intro hm
    have hm : ¬ m ≤ i.e.a2 := by simpa [-Option.bind_some] using hm
    rw [s1006 i.e.ls i.e.ld (.fn (.func fn1044) [] [.fptr [.int .i64 m]]) (fun l => decide (m ≤ l.off)) g1 i.e.hld i.e.hll (fun x => by rw [callV_some]; exact s1044 x m g1)]
    have hfil := idx_fil (fun l : Lin => decide (m ≤ l.off)) i.e.ls 0
    generalize idx (fun l : Lin => decide (m ≤ l.off)) 0 i.e.ls = kk at hfil
    simp only [bs, ldp3, r8, List.drop_succ_cons, List.drop_zero, List.head?_cons, dBin_geq, dBin_lss]
    have fail : (i.e.a3 ≤ m ∨ ∀ l ∈ i.e.ls, l.off < m) → Wp ((dBuild tab ty74 [] []).bind fun t27 => (dStore tab g1 ty74 (.ptr (h.length + 1) 0 0) t27).bind fun h' => (dLoad tab h' ty74 (.ptr (h.length + 1) 0 0)).bind fun d => scope h h' (mkRes [d, .bool false])) (fun p : D × Hp => p.2 = h ∧ ∃ j ok, p.1 = .tup [.agg (itr j), .bool ok] ∧ AftOf i m ok j) := fun hc => by
      simp only [bd74_, bs]
      refine wst74 p9 (by rfl) (by rfl) (by simp [-Option.bind_some]) (by rfl) fun g2 q9 s2 => ?_
      replace q9 : g2[h.length + 1]? = some (Ob.row ty74 11 [itr it0]) := q9
      simp only [ldIt11 q9, bs, mkRes_two]
      rw [end_it (by have := s2.1; omega) (fun q hq => (s2.2 q (by omega)).trans (hb q hq))]
      exact .some ⟨rfl, it0, false, rfl, .inr (.inl ⟨hm, hc, rfl, rfl⟩)⟩
    by_cases hto : i.e.a3 ≤ m
    · simp only [hto, decide_true, gd_bool, reduceCtorEq, if_false, if_true, Bool.true_eq_false, bs, dPick_bool, dIf_bool]
      exact fail (.inl hto)
    by_cases hk0 : kk < 0
    · simp only [hto, hk0, decide_true, decide_false, gd_bool, if_true, Bool.false_eq_true, if_false, dBin_lss, bs, dPick_bool, dIf_bool]
      refine fail (.inr fun l hl => ?_)
      rcases hfil with ⟨_, h2⟩ | ⟨k, h1, _⟩
      · have := h2 l hl
        simp [-Option.bind_some] at this; omega
      · omega
    obtain ⟨k, hk, hkl, hex⟩ : ∃ k, kk = ((0 + k : Nat) : Int) ∧ k < i.e.ls.length ∧ ∃ l ∈ i.e.ls, m ≤ l.off := by
      rcases hfil with ⟨h1, _⟩ | ⟨k, h1, h2, _, y, hy, hy2⟩
      · omega
      · exact ⟨k, h1, h2, y, hy, by simpa [-Option.bind_some] using hy2⟩
    simp only [hto, hk0, decide_false, gd_bool, if_true, Bool.false_eq_true, if_false, dBin_lss, bs, dPick_bool, dIf_bool, ldp28, r8, List.drop_succ_cons, List.drop_zero, List.head?_cons]
    obtain ⟨d1, g2, e2, hl2, hb2, hd1⟩ := u1008 i.e.ls i.e.ld g1 i.e.hld hl
    rcases hd1 with ⟨h0, _⟩ | ⟨ob, hob, rfl, ho⟩
    · rw [h0] at hkl; simp [-Option.bind_some] at hkl
    obtain ⟨g3, z, e3, s3, p3⟩ := u1045 i.e.ls (.fn (.func fn1046) [] [.fptr [.int .i64 m]]) (fun l => decide (l.off < m)) g2 ob ho hl (fun x g => by rw [callV_some]; exact s1046 x m g)
    have hfe : (i.e.ls.filter fun x => !decide (x.off < m)) = i.e.ls.filter fun x => decide (m ≤ x.off) := by
      congr 1; funext x
      by_cases hx : x.off < m
      · have : ¬ m ≤ x.off := by omega
        simp [-Option.bind_some, hx, this]
      · have : m ≤ x.off := by omega
        simp [-Option.bind_some, hx, this]
    simp only [hfe] at e3 p3
    generalize hks : i.e.ls.filter (fun x => decide (m ≤ x.off)) = ks at e3 p3
    have hkne : ∃ x r, ks = x :: r := by
      obtain ⟨l, hl1, hl2⟩ := hex
      have : l ∈ ks := by rw [← hks]; exact List.mem_filter.2 ⟨hl1, by simpa [-Option.bind_some] using hl2⟩
      cases ks with
      | nil => simp [-Option.bind_some] at this
      | cons x r => exact ⟨x, r, rfl⟩
    have hkle : ks.length ≤ i.e.ls.length := by rw [← hks]; exact List.length_filter_le _ _
    simp only [e2, e3, bs]
    replace p8 := ((s3.2 h.length (by omega)).trans (hb2 h.length (by omega))).trans p8
    replace p9 := ((s3.2 (h.length + 1) (by omega)).trans (hb2 (h.length + 1) (by omega))).trans p9
    replace hb : ∀ q, q < h.length → g3[q]? = h[q]? := fun q hq => ((s3.2 q (by omega)).trans (hb2 q (by omega))).trans (hb q hq)
    have hgl3 : h.length + 2 ≤ g3.length := by have := s3.1; omega
    clear r8 e2 e3 s3 hb2 ho hl2
    refine wst28 p8 (by rfl) (by rfl) (by simp [-Option.bind_some, itr, evr]) (by rfl) fun g4 q8 t4 => ?_
    replace q8 : g4[h.length]? = some (Ob.row ty74 11 [[.str i.r, .int .i64 i.e.a0, .int .i64 i.e.a1, .int .i64 i.e.a2, .int .i64 i.e.a3, .msl 3 ob 0 ks.length, .int .i64 i.e.a5, .int .i64 i.e.a6, .str i.e.s7, .str i.e.s8, i.e.fd]]) := q8
    replace p9 := (t4.2 (h.length + 1) (by omega)).trans p9
    replace p3 := (t4.2 ob (by omega)).trans p3
    have r8 : g4.row h.length 0 = some [.str i.r, .int .i64 i.e.a0, .int .i64 i.e.a1, .int .i64 i.e.a2, .int .i64 i.e.a3, .msl 3 ob 0 ks.length, .int .i64 i.e.a5, .int .i64 i.e.a6, .str i.e.s7, .str i.e.s8, i.e.fd] := row_of q8
    obtain ⟨x, r, hxr⟩ := hkne
    have hix : (0 : Int) ≤ 0 ∧ (0 : Int) < (ks.length : Int) := by rw [hxr]; simp [-Option.bind_some]
    have hrx : g4.row ob 0 = some [.int .i64 x.off, .int .i64 x.len, .str x.txt] := by rw [row_of p3, hxr]; rfl
    simp only [bs, ldp28, r8, List.drop_succ_cons, List.drop_zero, List.head?_cons, ixm28, hix, and_self, if_true, Nat.zero_add, Int.toNat_zero, fap78_0, ldp3, hrx]
    refine wst3 q8 (by rfl) (by rfl) (by simp [-Option.bind_some]) (by rfl) fun g5 q8' t5 => ?_
    replace q8 : g5[h.length]? = some (Ob.row ty74 11 [[.str i.r, .int .i64 i.e.a0, .int .i64 i.e.a1, .int .i64 x.off, .int .i64 i.e.a3, .msl 3 ob 0 ks.length, .int .i64 i.e.a5, .int .i64 i.e.a6, .str i.e.s7, .str i.e.s8, i.e.fd]]) := q8'
    replace t4 := t4.trans t5
    replace p9 := (t5.2 (h.length + 1) (by omega)).trans p9
    replace p3 := (t5.2 ob (by omega)).trans p3
    clear q8' t5 r8 hrx
    simp only [ldob11 q8 rfl, bs]
    refine wst74 p9 (by rfl) (by rfl) (by simp [-Option.bind_some]) (by rfl) fun g6 q9 t6 => ?_
    replace q9 : g6[h.length + 1]? = some (Ob.row ty74 11 [[.str i.r, .int .i64 i.e.a0, .int .i64 i.e.a1, .int .i64 x.off, .int .i64 i.e.a3, .msl 3 ob 0 ks.length, .int .i64 i.e.a5, .int .i64 i.e.a6, .str i.e.s7, .str i.e.s8, i.e.fd]]) := q9
    replace p3 := (t6.2 ob (by omega)).trans p3
    simp only [ldob11 q9 rfl, bs, mkRes_two]
    have hsl : SlOf 3 linr ks (.sl 3 false (ks.map linr)) := .mk _ _ _ _
    have hfz : frz h.length g6 2 (.msl 3 ob 0 ks.length) = .sl 3 false (ks.map linr) := by
      rw [frz_msl (by omega) p3, List.drop_zero, List.take_left' (by simp [-Option.bind_some]), map_id_of fun row hrow => by
        obtain ⟨a, _, rfl⟩ := List.mem_map.1 hrow
        exact map_id_of fun d hd => linr_frz _ _ _ a d hd]
    have hfy : frz h.length g6 2 i.e.fd = i.e.fd := slof_frz i.e.hfd (fun a _ => fld_frz _ g6 _ a)
    generalize hj : (⟨i.r, ⟨i.e.a0, i.e.a1, x.off, i.e.a3, ks, .sl 3 false (ks.map linr), i.e.a5, i.e.a6, i.e.s7, i.e.s8, i.e.fs, i.e.fd, i.e.hfd, i.e.hl, hsl, by omega⟩⟩ : It) = j
    have hflt : FltOf i m j := by subst hj; exact ⟨rfl, rfl, rfl, rfl, rfl, rfl, rfl, rfl, hks.symm, rfl, x, by rw [hks, hxr]; rfl, rfl⟩
    rw [scope_eq (d' := .tup [.agg (itr j), .bool true]) (by subst hj; simp [-Option.bind_some, itr, evr, hfy, hfz]) (.tup _ fun d hd => by
      simp [-Option.bind_some] at hd
      rcases hd with rfl | rfl
      · exact itr_ok _ _
      · constructor) (by have := t4.1; have := t6.1; omega) (fun q hq => ((t6.2 q (by omega)).trans (t4.2 q (by omega))).trans (hb q hq))]
    exact .some ⟨rfl, j, true, rfl, .inr (.inr ⟨hm, by omega, hex, rfl, hflt⟩)⟩
theorem cmpB_neg : ∀ (a b : Str), Lib.compareBytes a b = - Lib.compareBytes b a
  | [], [] => rfl
  | [], _ :: _ => rfl
  | _ :: _, [] => rfl
  | x :: a, y :: b => by
    have ih := cmpB_neg a b
    simp only [Lib.compareBytes]
    by_cases h1 : x < y
    · have h2 : ¬ y < x := by
        have := UInt8.lt_iff_toNat_lt.1 h1
        intro hh
        have := UInt8.lt_iff_toNat_lt.1 hh
        omega
      simp [-Option.bind_some, h1, h2]
    · by_cases h2 : y < x
      · simp [-Option.bind_some, h1, h2]
      · simp [-Option.bind_some, h1, h2, ih]
theorem asc_srt {l : List (Str × Str)} (h : Asc l) : srt l = l := by
  have hd : ∀ j, dn cF 0 j l = l := fun j => by
    cases j with
    | zero => rfl
    | succ j =>
      unfold dn
      split
      · rename_i x y hx hy
        split
        · rename_i hc
          exfalso
          have h1 := (h j y x hy hx).1
          have h2 := (cmpB_lt y.1 x.1).2 h1
          have h3 := cmpB_neg x.1 y.1
          have h4 := hc.2
          unfold cF at h4
          omega
        · rfl
      · rfl
  have hi : ∀ n i, isr cF 0 i n l = l := fun n => by
    induction n with
    | zero => intro i; rfl
    | succ n ih => intro i; unfold isr; rw [hd]; exact ih _
  exact hi _ _
theorem asc_adj : ∀ {l : List (Str × Str)}, Asc l → adjB l = false
  | [], _ => rfl
  | [_], _ => rfl
  | x :: y :: r, h => by
    unfold adjB
    have h0 := (h 0 x y rfl rfl).2
    have h1 : (y.1 == x.1) = false := by simp [-Option.bind_some]; exact fun hh => h0 hh.symm
    rw [h1, Bool.false_or]
    exact asc_adj fun i p q hp hq => h (i + 1) p q hp hq
theorem asc_sort {l : List (Str × Str)} (h : Asc l) (hl : l.length ≤ 32) (hn : ∀ p ∈ l, fnameOK p.1 = true) : sortF l = (0, l) := by
  have h32 : ¬ 32 < l.length := by omega
  have ha : l.all (fun p => fnameOK p.1) = true := List.all_eq_true.2 hn
  simp only [sortF, h32, if_false, ha, if_true, asc_srt h, asc_adj h, Bool.false_eq_true]
theorem lnE_mch (to_ m : Int) (hm : 200 ≤ m) (ht : to_ ≤ 60000) : ∀ (ls : List Lin) (a : Int), 0 ≤ a → mch a ls to_ → lnE to_ m a ls = 0
  | [], a, _, _ => rfl
  | l :: r, a, ha, h => by
    obtain ⟨h1, h2, h3, h4, h5⟩ := h
    have hle := mch_le r _ _ h5
    have w1 : IntKind.wrap .i64 (to_ - a) = to_ - a := wrap_i64 (by omega) (by omega)
    have w2 : IntKind.wrap .i64 (a + l.len) = a + l.len := wrap_i64 (by omega) (by omega)
    unfold lnE
    rw [if_pos, if_neg (by omega), w2]
    · exact lnE_mch to_ m hm ht r _ (by omega) h5
    · rw [w1]
      refine ⟨h1, by omega, by omega, fun hh => ?_⟩
      obtain ⟨hr, hlt⟩ := hh
      subst hr
      have h5 : a + l.len = to_ := h5
      omega
theorem lines_mch {e : Ev} (m : Int) (hm : 200 ≤ m) (h0 : 0 ≤ e.a2) (ht : e.a3 ≤ 60000) (h1 : 1 ≤ e.ls.length) (h40 : e.ls.length ≤ 40) (hc : mch e.a2 e.ls e.a3) : linesE e m = 0 := by
  have g0 : ¬ e.ls.length = 0 := by omega
  have g1 : ¬ 40 < e.ls.length := by omega
  simp only [linesE, g0, g1, if_false]
  exact lnE_mch _ _ hm ht _ _ h0 hc
theorem mf_asc {l : List (Str × Str)} (h : MF l) : Asc l := by
  have hp : lt98_17.Pairwise fun a b => Op.bytesLess a b = true ∧ a ≠ b := by decide
  have := hp.sublist h.1
  rw [List.pairwise_iff_getElem] at this
  intro i p q h1 h2
  obtain ⟨g1, h1⟩ := List.getElem?_eq_some_iff.1 h1
  obtain ⟨g2, h2⟩ := List.getElem?_eq_some_iff.1 h2
  have := this i (i + 1) (by simpa [-Option.bind_some] using g1) (by simpa [-Option.bind_some] using g2) (by omega)
  simpa [-Option.bind_some, h1, h2] using this
theorem mf_sort {l : List (Str × Str)} (h : MF l) : sortF l = (0, l) := by
  have hl : l.length ≤ 4 := by
    have := h.1.length_le
    simpa [-Option.bind_some] using this
  refine asc_sort (mf_asc h) (by omega) fun p hp => ?_
  have hm : p.1 ∈ lt98_17 := h.1.subset (List.mem_map.2 ⟨p, hp, rfl⟩)
  exact (show ∀ s ∈ lt98_17, fnameOK s = true by decide) _ hm
/-- What an event of logtidemake is like, and what is cut of one. -/
structure EvK (e : Ev) : Prop where
  h0 : 0 ≤ e.a0
  h2 : e.a0 ≤ 2
  f0 : 0 ≤ e.a1
  f2 : e.a1 ≤ 2
  a0 : 0 ≤ e.a2
  b9 : e.a3 ≤ 1000
  ch : mch e.a2 e.ls e.a3
  l1 : 1 ≤ e.ls.length
  l3 : e.ls.length ≤ 3
  t0 : 0 ≤ e.a5
  t9 : e.a5 ≤ 255000
  wt : e.a6 ∈ lt82_14
  tr : e.s7 ∈ lt98_15
  st : e.s8 ∈ lt98_16
  fs : MF e.fs
theorem EvM.k {e : Ev} (h : EvM e) : EvK e := ⟨h.h0, h.h2, h.f0, h.f2, h.a0, by have := mch_le _ _ _ h.ch; have := h.a9; have := h.l3; omega, h.ch, h.l1, h.l3, h.t0, h.t9, h.wt, h.tr, h.st, h.fs⟩
theorem EvK.good {e : Ev} (h : EvK e) : evE e = 0 := by
  have hle := mch_le _ _ _ h.ch
  have h1 := h.h0; have h2 := h.h2; have h3 := h.f0; have h4 := h.f2; have h5 := h.a0; have h6 := h.b9; have h7 := h.l1; have h8 := h.t0; have h9 := h.t9; have h10 := h.l3
  have hp : plB e = true := by
    simp [-Option.bind_some, plB]
    omega
  have ht : (decide (0 ≤ e.a5) && decide (e.a5 ≤ 253402300799999)) = true := by simp [-Option.bind_some]; omega
  have hw := (show ∀ s ∈ lt82_14, ¬ s < 1 ∧ Int.tmod 5040 s = 0 by decide) _ h.wt
  have hl := lines_mch 2000 (by omega) h.a0 (by omega) h.l1 (by omega) h.ch
  have htr := (show ∀ s ∈ lt98_15, ¬ 32 < s.length by decide) _ h.tr
  have hst := (show ∀ s ∈ lt98_16, ¬ 32 < s.length by decide) _ h.st
  have hs := mf_sort h.fs
  have hv : (e.fs.any fun p => decide (2000 < p.2.length)) = false := by
    rw [List.any_eq_false]
    intro p hp
    have := (show ∀ s ∈ lt98_18, ¬ 2000 < s.length by decide) _ (h.fs.2 p hp)
    simpa [-Option.bind_some] using this
  simp [-Option.bind_some, evE, hp, ht, hw.1, hw.2, hl, htr, hst, hs, hv]
theorem m10 (zs : List Int) (d : D) (n : Int) (h : Hp) (hd : Given .u8 zs d) (hn : 0 ≤ n) (hn2 : n ≤ 400) (hz : ∀ z ∈ zs, 0 ≤ z ∧ z < 256) (hzl : zs.length ≤ 9223372036854775807) : ∃ h', R fn10 [d, .int .i64 n] h = some (.ptr h.length 0 0, h') ∧ CM h' h.length ∧ h'.length = h.length + 1 ∧ ∀ q, q < h.length → h'[q]? = h[q]? := by
  rw [e10]
  simp only [F10, bs, Option.bind_assoc, given_len hd, dBin_gtr]
  have fin : ∀ d' zs', Given .u8 zs' d' → zs'.length ≤ 400 → (∀ z ∈ zs', 0 ≤ z ∧ z < 256) → ∃ h', ((dBuild tab ty80 [0] [d']).bind fun t13 => (wBox ty80 2 h t13).bind fun p14 => some (mkRes [p14.1], p14.2)) = some (.ptr h.length 0 0, h') ∧ CM h' h.length ∧ h'.length = h.length + 1 ∧ ∀ q, q < h.length → h'[q]? = h[q]? := fun d' zs' hg hl hz' => by
    rw [bd80_0 d' (given_one hg)]
    simp only [bs]
    rw [wBox_agg ty80 2 h [d', .int .i64 0] rfl (by omega)]
    exact ⟨_, rfl, ⟨d', zs', 0, new_get _ _ _ _, hg, hl, by omega, hz'⟩, new_len _ _ _ _, fun q hq => new_old _ _ _ _ hq⟩
  by_cases hgt : n < (zs.length : Int)
  · obtain ⟨d', hs, hg⟩ := given_hi (T := tab) (t := ty22) (i := ti22) (j := ti5) (id rfl) (id rfl) (id rfl) (id rfl) hd (k2 := .i64) hn (Int.le_of_lt hgt)
    simp only [hgt, decide_true, dIf_bool, if_true, hs, bs, toEnd_nrm, nth_zero]
    exact fin d' _ hg (by simp [-Option.bind_some]; omega) fun z hz' => hz z (List.mem_of_mem_take hz')
  · simp only [hgt, decide_false, dIf_bool, Bool.false_eq_true, if_false, bs, toEnd_nrm, nth_zero]
    exact fin d zs hd (by omega) hz
def aev : Ev := ⟨0, 0, 0, 9, [⟨0, 5, []⟩, ⟨5, 4, [120]⟩], .sl 3 true [[.int .i64 0, .int .i64 5, .str []], [.int .i64 5, .int .i64 4, .str [120]]], 0, 1, [], [], [], .nils, SlOf.nils _ _, by simp [-Option.bind_some], SlOf.mk 3 linr [⟨0, 5, []⟩, ⟨5, 4, [120]⟩] true, by simp [-Option.bind_some]⟩
theorem aev_e : evE aev = 0 := by decide
theorem s1036 (h : Hp) : R fn1036 [] h = some (.bool true, h) := by
  rw [e1036]
  obtain ⟨j, ok, h1, h2⟩ := s1040 ⟨[], aev⟩ 3 h (by decide)
  have h3 := s1043 aev h (by decide)
  rw [aev_e] at h3
  have hc : ok = true ∧ FltOf ⟨[], aev⟩ 3 j := by
    rcases h2 with ⟨hh, _⟩ | ⟨_, hh, _⟩ | ⟨_, _, _, hh, hf⟩
    · exact absurd hh (by decide)
    · rcases hh with hh | hh
      · exact absurd hh (by decide)
      · exact absurd (hh ⟨5, 4, [120]⟩ (by decide)) (by decide)
    · exact ⟨hh, hf⟩
  obtain ⟨rfl, hf⟩ := hc
  have hls : j.e.ls = [⟨5, 4, [120]⟩] := hf.ls.trans (by decide)
  have ha2 : j.e.a2 = 5 := by
    obtain ⟨x, hx, hx2⟩ := hf.a2
    rw [hx2]
    have : (some x : Option Lin) = some ⟨5, 4, [120]⟩ := hx.symm.trans (by decide)
    injection this with this
    rw [this]
  have hbx : boxN 10 (.agg (evr aev)) = some (.fptr (evr aev)) := boxN_agg 10 _ rfl
  have hbx2 : boxN 11 (.agg (itr j)) = some (.fptr (itr j)) := boxN_agg 11 _ rfl
  have q2 : dFieldAddr tab ty31 2 (.fptr (evr j.e)) = some (.fptr [.int .i64 j.e.a2, .int .i64 j.e.a3, j.e.ld, .int .i64 j.e.a5, .int .i64 j.e.a6, .str j.e.s7, .str j.e.s8, j.e.fd]) := id rfl
  have q4 : dFieldAddr tab ty31 4 (.fptr (evr j.e)) = some (.fptr [j.e.ld, .int .i64 j.e.a5, .int .i64 j.e.a6, .str j.e.s7, .str j.e.s8, j.e.fd]) := id rfl
  have hb1 : dBuild tab ty31 [3, 6, 4] [.int .i64 9, .int .i64 1, .sl 3 true [[.int .i64 0, .int .i64 5, .str []], [.int .i64 5, .int .i64 4, .str [120]]]] = some (.agg (evr aev)) := bd31_3_6_4 9 1 _ (by rfl)
  have hb2 : dBuild tab ty74 [1] [.agg (evr aev)] = some (.agg (itr ⟨[], aev⟩)) := id rfl
  simp only [F1036, bs, bd78_1, bd78_0_1_2, bs28_2, hb1, hbx, evL, hb2, h1, dExtract_tup, List.getElem?_cons_zero, List.getElem?_cons_succ, hbx2, h3, dBin_eql, decide_true, gd_bool, if_true, dPick_bool, itF1, q2, q4, ld3, ld28, ha2, lens28 j.e.hld, hls, List.length_singleton, mkRes_one]
  rfl
theorem lessE_irr (a : Ev) : lessE a a = false := by simp [-Option.bind_some, lessE]
theorem lessE_asym (a b : Ev) : ¬ (lessE a b = true ∧ lessE b a = true) := by
  unfold lessE
  intro ⟨h1, h2⟩
  split at h1 <;> split at h2 <;> try omega
  · split at h1 <;> split at h2 <;> try omega
    · split at h1 <;> split at h2 <;> try omega
      · have := of_decide_eq_true h1; have := of_decide_eq_true h2; omega
      · have := of_decide_eq_true h1; have := of_decide_eq_true h2; omega
    · have := of_decide_eq_true h1; have := of_decide_eq_true h2; omega
  · have := of_decide_eq_true h1; have := of_decide_eq_true h2; omega
theorem lessE_iff (a b : Ev) : lessE a b = true ↔ (a.a5 < b.a5 ∨ (a.a5 = b.a5 ∧ (a.a0 < b.a0 ∨ (a.a0 = b.a0 ∧ (a.a1 < b.a1 ∨ (a.a1 = b.a1 ∧ a.a2 < b.a2)))))) := by
  unfold lessE
  split
  · split
    · split
      · simp [-Option.bind_some]; omega
      · simp [-Option.bind_some]; omega
    · simp [-Option.bind_some]; omega
  · simp [-Option.bind_some]; omega
theorem lessE_trans (a b c : Ev) (h1 : lessE a b = true) (h2 : lessE b c = true) : lessE a c = true := by
  rw [lessE_iff] at *
  omega
theorem lessE_tri (a b : Ev) (h1 : lessE a b = false) (h2 : lessE b a = false) : a.a5 = b.a5 ∧ a.a0 = b.a0 ∧ a.a1 = b.a1 ∧ a.a2 = b.a2 := by
  have h1 : ¬ lessE a b = true := by rw [h1]; simp [-Option.bind_some]
  have h2 : ¬ lessE b a = true := by rw [h2]; simp [-Option.bind_some]
  rw [lessE_iff] at h1 h2
  omega
theorem ldEv {g : Hp} {q T z : Nat} {e : Ev} (hq : g[q]? = some (Ob.row T z [evr e])) : dLoad tab g ty31 (.ptr q 0 0) = some (.agg (evr e)) := ldob hq rfl
theorem law1034 (zs : List Int) (d : D) (h : Hp) (hd : Given .u8 zs d) (hz : ∀ z ∈ zs, 0 ≤ z ∧ z < 256) (hzl : zs.length ≤ 9223372036854775807) : ∃ h', R fn1034 [d] h = some (.bool true, h') := by
  suffices Wp (R fn1034 [d] h) (fun p => p.1 = .bool true) by
    obtain ⟨⟨x, h'⟩, h1, rfl⟩ := this
    exact ⟨h', h1⟩
  rw [e1034]
  simp only [F1034, bs, Option.bind_assoc, s1036, dUn_not, Bool.not_true, dIf_bool, Bool.false_eq_true, if_false]
  obtain ⟨h1, e1, c1, l1, b1⟩ := m10 zs d 200 h hd (by omega) (by omega) hz hzl
  refine Wp.step e1 ?_; clear e1
  try simp only [bs]
  obtain ⟨x, h2, e2, c2, s2, hx⟩ := m12 c1
  refine Wp.step e2 ?_; clear e2
  try simp only [bs]
  obtain ⟨y, h3, e3, c3, s3, hy⟩ := m12 c2
  refine Wp.step e3 ?_; clear e3
  try simp only [bs]
  obtain ⟨z, h4, e4, c4, s4, hz⟩ := m12 c3
  refine Wp.step e4 ?_; clear e4
  have hl4 : h4.length = h.length + 1 := by have := s2.1; have := s3.1; have := s4.1; omega
  have hb4 : ∀ q, q < h.length → h4[q]? = h[q]? := fun q hq => (((s4.2 q (by omega)).trans (s3.2 q (by omega))).trans (s2.2 q (by omega))).trans (b1 q hq)
  clear s2 s3 s4 c1 c2 c3 b1 l1 hx hy hz
  simp only [bs, hl4]
  generalize hg5 : dNew h4 ty31 10 [[.int .i64 0, .int .i64 0, .int .i64 0, .int .i64 0, .nils, .int .i64 0, .int .i64 0, .str [], .str [], .nils]] = h5
  have hl5 : h5.length = h.length + 2 := by rw [← hg5, new_len]; omega
  have px : h5[h.length + 1]? = some (Ob.row ty31 10 [[.int .i64 0, .int .i64 0, .int .i64 0, .int .i64 0, .nils, .int .i64 0, .int .i64 0, .str [], .str [], .nils]]) := by rw [← hg5, ← hl4]; exact new_get _ _ _ _
  have hb5 : ∀ q, q < h.length + 1 → h5[q]? = h4[q]? := fun q hq => by rw [← hg5]; exact new_old _ _ _ _ (by omega)
  clear hg5
  simp only [bs, hl5]
  generalize hg6 : dNew h5 ty31 10 [[.int .i64 0, .int .i64 0, .int .i64 0, .int .i64 0, .nils, .int .i64 0, .int .i64 0, .str [], .str [], .nils]] = h6
  have hl6 : h6.length = h.length + 3 := by rw [← hg6, new_len]; omega
  have py : h6[h.length + 2]? = some (Ob.row ty31 10 [[.int .i64 0, .int .i64 0, .int .i64 0, .int .i64 0, .nils, .int .i64 0, .int .i64 0, .str [], .str [], .nils]]) := by rw [← hg6, ← hl5]; exact new_get _ _ _ _
  have hb6 : ∀ q, q < h.length + 2 → h6[q]? = h5[q]? := fun q hq => by rw [← hg6]; exact new_old _ _ _ _ (by omega)
  clear hg6
  simp only [bs, hl6]
  generalize hg7 : dNew h6 ty31 10 [[.int .i64 0, .int .i64 0, .int .i64 0, .int .i64 0, .nils, .int .i64 0, .int .i64 0, .str [], .str [], .nils]] = h7
  have hl7 : h7.length = h.length + 4 := by rw [← hg7, new_len]; omega
  have pz : h7[h.length + 3]? = some (Ob.row ty31 10 [[.int .i64 0, .int .i64 0, .int .i64 0, .int .i64 0, .nils, .int .i64 0, .int .i64 0, .str [], .str [], .nils]]) := by rw [← hg7, ← hl6]; exact new_get _ _ _ _
  have hb7 : ∀ q, q < h.length + 3 → h7[q]? = h6[q]? := fun q hq => by rw [← hg7]; exact new_old _ _ _ _ (by omega)
  clear hg7
  replace py := (hb7 (h.length + 2) (by omega)).trans py
  replace px := (hb7 (h.length + 1) (by omega)).trans ((hb6 (h.length + 1) (by omega)).trans px)
  have hb : ∀ q, q < h.length + 1 → h7[q]? = h4[q]? := fun q hq => (hb7 q (by omega)).trans ((hb6 q (by omega)).trans (hb5 q (by omega)))
  have c7 : CM h7 h.length := c4.keep (hb h.length (by omega))
  have hbb : ∀ q, q < h.length → h7[q]? = h[q]? := fun q hq => (hb q (by omega)).trans (hb4 q hq)
  clear hb hb4 hb5 hb6 hb7 hl4 hl5 hl6 c4
  refine wst31 px (by rfl) (by rfl) (by simp [-Option.bind_some]) (by rfl) fun h8 px' s8 => ?_
  replace px : h8[h.length + 1]? = some (Ob.row ty31 10 [evr x]) := px'
  replace py := (s8.2 (h.length + 2) (by omega)).trans py
  try simp only [bs]
  refine wst31 py (by rfl) (by rfl) (by simp [-Option.bind_some]) (by rfl) fun h9 py' s9 => ?_
  replace py : h9[h.length + 2]? = some (Ob.row ty31 10 [evr y]) := py'
  replace px := (s9.2 (h.length + 1) (by omega)).trans px
  replace pz := (s9.2 (h.length + 3) (by omega)).trans ((s8.2 (h.length + 3) (by omega)).trans pz)
  try simp only [bs]
  refine wst31 pz (by rfl) (by rfl) (by simp [-Option.bind_some]) (by rfl) fun h10 pz' s10 => ?_
  replace pz : h10[h.length + 3]? = some (Ob.row ty31 10 [evr z]) := pz'
  replace px := (s10.2 (h.length + 1) (by omega)).trans px
  replace py := (s10.2 (h.length + 2) (by omega)).trans py
  have c10 : CM h10 h.length := c7.keep ((s10.2 h.length (by omega)).trans ((s9.2 h.length (by omega)).trans (s8.2 h.length (by omega))))
  have hl10 : h10.length = h.length + 4 := by have := s8.1; have := s9.1; have := s10.1; omega
  have hb10 : ∀ q, q < h.length → h10[q]? = h[q]? := fun q hq => (s10.2 q (by omega)).trans ((s9.2 q (by omega)).trans ((s8.2 q (by omega)).trans (hbb q hq)))
  clear px' py' pz' s8 s9 s10 c7 hl7 hbb
  try simp only [bs]
  obtain ⟨v, h11, e11, c11, s11, v0, v1⟩ := m39 c10 2 (by omega) (by omega)
  refine Wp.step e11 ?_; clear e11
  replace px := (s11.2 (h.length + 1) (by omega)).trans px
  replace py := (s11.2 (h.length + 2) (by omega)).trans py
  replace pz := (s11.2 (h.length + 3) (by omega)).trans pz
  have hl11 : h11.length = h.length + 4 := s11.1.trans hl10
  have hb11 : ∀ q, q < h.length → h11[q]? = h[q]? := fun q hq => (s11.2 q (by omega)).trans (hb10 q hq)
  clear s11 c10 hl10 hb10 c11
  simp only [bs, dBin_eql]
  refine Wp.join (P := fun r => ∃ g x y z, r = (.nrm, [], g) ∧ h.length ≤ g.length ∧ (∀ q, q < h.length → g[q]? = h[q]?) ∧ g[h.length + 1]? = some (Ob.row ty31 10 [evr x]) ∧ g[h.length + 2]? = some (Ob.row ty31 10 [evr y]) ∧ g[h.length + 3]? = some (Ob.row ty31 10 [evr z])) ?_ ?_ ?_
  · intro _
    have r1 : h11.row (h.length + 1) 0 = some [.int .i64 x.a0, .int .i64 x.a1, .int .i64 x.a2, .int .i64 x.a3, x.ld, .int .i64 x.a5, .int .i64 x.a6, .str x.s7, .str x.s8, x.fd] := row_of px
    simp only [bs, fap31_5, Nat.zero_add, ldp3, r1, List.drop_succ_cons, List.drop_zero, List.head?_cons]
    refine wst3 py (by rfl) (by rfl) (by simp [-Option.bind_some, evr]) (by rfl) fun g1 q1 t1 => ?_
    replace q1 : g1[h.length + 2]? = some (Ob.row ty31 10 [evr { y with a5 := x.a5 }]) := q1
    have r2 : g1.row (h.length + 1) 0 = some [.int .i64 x.a0, .int .i64 x.a1, .int .i64 x.a2, .int .i64 x.a3, x.ld, .int .i64 x.a5, .int .i64 x.a6, .str x.s7, .str x.s8, x.fd] := row_of ((t1.2 (h.length + 1) (by omega)).trans px)
    simp only [bs, r2, List.drop_succ_cons, List.drop_zero, List.head?_cons, chk_true]
    refine wst3 ((t1.2 (h.length + 3) (by omega)).trans pz) (by rfl) (by rfl) (by simp [-Option.bind_some, evr]) (by rfl) fun g2 q2 t2 => ?_
    replace q2 : g2[h.length + 3]? = some (Ob.row ty31 10 [evr { z with a5 := x.a5 }]) := q2
    exact .some ⟨g2, x, _, _, rfl, by have := t1.1; have := t2.1; omega, fun q hq => (t2.2 q (by omega)).trans ((t1.2 q (by omega)).trans (hb11 q hq)), (t2.2 (h.length + 1) (by omega)).trans ((t1.2 (h.length + 1) (by omega)).trans px), (t2.2 (h.length + 2) (by omega)).trans q1, q2⟩
  · intro _
    exact .some ⟨_, x, y, z, rfl, by omega, hb11, px, py, pz⟩
  · clear px py pz hl11 hb11 x y z h11 v v0 v1
    rintro _ ⟨g, x, y, z, rfl, hgl, hgb, px, py, pz⟩
    have sc : scope h g (.bool true) = some (.bool true, h) := scope_eq (by simp [-Option.bind_some]) (.bool _) hgl hgb
    have r1 : g.row (h.length + 1) 0 = some [.int .i64 x.a0, .int .i64 x.a1, .int .i64 x.a2, .int .i64 x.a3, x.ld, .int .i64 x.a5, .int .i64 x.a6, .str x.s7, .str x.s8, x.fd] := row_of px
    have r2 : g.row (h.length + 2) 0 = some [.int .i64 y.a0, .int .i64 y.a1, .int .i64 y.a2, .int .i64 y.a3, y.ld, .int .i64 y.a5, .int .i64 y.a6, .str y.s7, .str y.s8, y.fd] := row_of py
    have k1 := s1037 x y g; have k2 := s1037 y x g; have k3 := s1037 y z g; have k4 := s1037 x z g; have k0 := s1037 x x g
    have a1 := lessE_asym x y; have a2 := lessE_trans x y z; have a3 := lessE_tri x y
    rw [lessE_irr] at k0
    generalize lessE x y = b1 at k1 a1 a2 a3
    generalize lessE y x = b2 at k2 a1 a3
    generalize lessE y z = b3 at k3 a2
    generalize lessE x z = b4 at k4 a2
    have lx := ldEv px; have ly := ldEv py; have lz := ldEv pz
    simp only [toEnd_nrm, bs, fap31_5, fap31_0, fap31_1, fap31_2, Nat.zero_add, ldp3, r1, r2, List.drop_succ_cons, List.drop_zero, List.head?_cons, dBin_eql, lx, ly, lz, k0, dUn_not, Bool.not_false, gd_bool, gdW_bool, if_true, k1]
    by_cases q5 : x.a5 = y.a5
    · by_cases q0 : x.a0 = y.a0
      · by_cases q1 : x.a1 = y.a1
        · by_cases q2 : x.a2 = y.a2
          · cases b1 <;> cases b2 <;> cases b3 <;> cases b4 <;> first
              | exact absurd ⟨rfl, rfl⟩ a1
              | exact absurd (a2 rfl rfl) Bool.false_ne_true
              | (simp only [q5, q0, q1, q2, decide_true, decide_false, gd_bool, gdW_bool, gd_und, gdW_und, reduceCtorEq, if_true, if_false, Bool.false_eq_true, Bool.true_eq_false, bs, dPick_bool, fap31_0, fap31_1, fap31_2, Nat.zero_add, ldp3, r1, r2, List.drop_succ_cons, List.drop_zero, List.head?_cons, dBin_eql, lx, ly, lz, k1, k2, k3, k4, dUn_not, Bool.not_true, Bool.not_false, mkRes_one, sc]; exact .some rfl)
          · cases b1 <;> cases b2 <;> cases b3 <;> cases b4 <;> first
              | exact absurd ⟨rfl, rfl⟩ a1
              | exact absurd (a2 rfl rfl) Bool.false_ne_true
              | exact absurd (a3 rfl rfl).2.2.2 q2
              | (simp only [q5, q0, q1, q2, decide_true, decide_false, gd_bool, gdW_bool, gd_und, gdW_und, reduceCtorEq, if_true, if_false, Bool.false_eq_true, Bool.true_eq_false, bs, dPick_bool, fap31_0, fap31_1, fap31_2, Nat.zero_add, ldp3, r1, r2, List.drop_succ_cons, List.drop_zero, List.head?_cons, dBin_eql, lx, ly, lz, k1, k2, k3, k4, dUn_not, Bool.not_true, Bool.not_false, mkRes_one, sc]; exact .some rfl)
        · cases b1 <;> cases b2 <;> cases b3 <;> cases b4 <;> first
            | exact absurd ⟨rfl, rfl⟩ a1
            | exact absurd (a2 rfl rfl) Bool.false_ne_true
            | exact absurd (a3 rfl rfl).2.2.1 q1
            | (simp only [q5, q0, q1, decide_true, decide_false, gd_bool, gdW_bool, gd_und, gdW_und, reduceCtorEq, if_true, if_false, Bool.false_eq_true, Bool.true_eq_false, bs, dPick_bool, fap31_0, fap31_1, fap31_2, Nat.zero_add, ldp3, r1, r2, List.drop_succ_cons, List.drop_zero, List.head?_cons, dBin_eql, lx, ly, lz, k1, k2, k3, k4, dUn_not, Bool.not_true, Bool.not_false, mkRes_one, sc]; exact .some rfl)
      · cases b1 <;> cases b2 <;> cases b3 <;> cases b4 <;> first
          | exact absurd ⟨rfl, rfl⟩ a1
          | exact absurd (a2 rfl rfl) Bool.false_ne_true
          | exact absurd (a3 rfl rfl).2.1 q0
          | (simp only [q5, q0, decide_true, decide_false, gd_bool, gdW_bool, gd_und, gdW_und, reduceCtorEq, if_true, if_false, Bool.false_eq_true, Bool.true_eq_false, bs, dPick_bool, fap31_0, fap31_1, fap31_2, Nat.zero_add, ldp3, r1, r2, List.drop_succ_cons, List.drop_zero, List.head?_cons, dBin_eql, lx, ly, lz, k1, k2, k3, k4, dUn_not, Bool.not_true, Bool.not_false, mkRes_one, sc]; exact .some rfl)
    · cases b1 <;> cases b2 <;> cases b3 <;> cases b4 <;> first
        | exact absurd ⟨rfl, rfl⟩ a1
        | exact absurd (a2 rfl rfl) Bool.false_ne_true
        | exact absurd (a3 rfl rfl).1 q5
        | (simp only [q5, decide_true, decide_false, gd_bool, gdW_bool, gd_und, gdW_und, reduceCtorEq, if_true, if_false, Bool.false_eq_true, Bool.true_eq_false, bs, dPick_bool, fap31_0, fap31_1, fap31_2, Nat.zero_add, ldp3, r1, r2, List.drop_succ_cons, List.drop_zero, List.head?_cons, dBin_eql, lx, ly, lz, k1, k2, k3, k4, dUn_not, Bool.not_true, Bool.not_false, mkRes_one, sc]; exact .some rfl)
end Go.Proofs.YtcblbhamadgjlaaDoor
