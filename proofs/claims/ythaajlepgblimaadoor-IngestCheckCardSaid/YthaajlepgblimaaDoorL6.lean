/- Laws, on plain data, about functions that the statement reaches. -/
import Derived.Test.YthaajlepgblimaaDoorL5
set_option linter.unusedSimpArgs false
set_option linter.unusedVariables false
set_option linter.unnecessarySimpa false
set_option maxRecDepth 100000
namespace Go.Proofs.YthaajlepgblimaaDoor
open Go.Eng Go.Pi
open Option (bind_some)
theorem leS_def (x y : Str × Str) : leS x y ↔ Op.bytesLess y.1 x.1 = false := by
  unfold leS cF
  rw [cmpB_lt]
  simp [-bind_some]
theorem leS_tr {x y z : Str × Str} (h : leS x y) (k : leS y z) : leS x z := by
  rw [leS_def] at *
  cases hh : Op.bytesLess z.1 x.1
  · rfl
  · by_cases he : y.1 = x.1
    · rw [he, hh] at k; cases k
    · have := bL_tr hh (bL_tot h he)
      rw [this] at k; cases k
theorem leS_od : SOrd cF leS (fun _ _ => True) where
  tr := fun x y z => leS_tr
  lt := fun x y _ h => by
    unfold leS
    intro h2
    unfold cF at h h2
    rw [cmpB_lt] at h h2
    have := bL_tr h h2
    rw [bL_irr] at this
    cases this
  ge := fun x y _ h => h
theorem leS_anti {x y : Str × Str} (h : leS x y) (k : leS y x) : x.1 = y.1 := by
  rw [leS_def] at h k
  apply Classical.byContradiction
  intro hn
  have := bL_tot k hn
  rw [this] at h; cases h
theorem sorted_adj : ∀ {C : List (Str × Str)}, C.Pairwise leS → (adjB C = false ↔ (C.map Prod.fst).Nodup)
  | [], _ => by simp [-bind_some, adjB]
  | [x], _ => by simp [-bind_some, adjB]
  | x :: y :: r, h => by
    have ih := sorted_adj (C := y :: r) (List.pairwise_cons.1 h).2
    have hx := (List.pairwise_cons.1 h).1
    have hy := (List.pairwise_cons.1 (List.pairwise_cons.1 h).2).1
    rw [List.map_cons, List.nodup_cons]
    unfold adjB
    rw [Bool.or_eq_false_iff, ih]
    constructor
    · rintro ⟨h1, h2⟩
      refine ⟨fun hm => ?_, h2⟩
      have h1 : y.1 ≠ x.1 := by simpa using h1
      obtain ⟨z, hz, hzx⟩ := List.mem_map.1 hm
      rcases List.mem_cons.1 hz with rfl | hz
      · exact h1 hzx
      · have h3 : leS y x := by
          have := hy z hz
          rw [leS_def] at this ⊢
          rw [← hzx]; exact this
        exact h1 (leS_anti h3 (hx y (by simp)))
    · rintro ⟨h1, h2⟩
      refine ⟨?_, h2⟩
      have : y.1 ≠ x.1 := fun hh => h1 (by rw [List.map_cons, hh]; simp [-bind_some])
      simpa using this
theorem sorted_uniq : ∀ {C E : List (Str × Str)}, C.Pairwise leS → E.Pairwise leS → C.Perm E → (C.map Prod.fst).Nodup → C = E
  | [], E, _, _, hp, _ => by rw [List.nil_perm.1 hp]
  | x :: C, [], _, _, hp, _ => by cases List.perm_nil.1 hp
  | x :: C, y :: E, hC, hE, hp, hn => by
    rw [List.pairwise_cons] at hC hE
    rw [List.map_cons, List.nodup_cons] at hn
    have hxy : x = y := by
      apply Classical.byContradiction
      intro hne
      have hx : x ∈ E := by
        have : x ∈ y :: E := hp.mem_iff.1 (by simp)
        rcases List.mem_cons.1 this with h | h
        · exact absurd h hne
        · exact h
      have hy : y ∈ C := by
        have : y ∈ x :: C := hp.mem_iff.2 (by simp)
        rcases List.mem_cons.1 this with h | h
        · exact absurd h.symm hne
        · exact h
      have := leS_anti (hC.1 y hy) (hE.1 x hx)
      exact hn.1 (by rw [this]; exact List.mem_map.2 ⟨y, hy, rfl⟩)
    subst hxy
    rw [sorted_uniq hC.2 hE.2 ((List.perm_cons x).1 hp) hn.2]
theorem srt_ok (l : List (Str × Str)) : (srt l).Perm l ∧ (srt l).Pairwise leS := by
  cases l with
  | nil => exact ⟨by simp [-bind_some, srt, isr], by simp [-bind_some, srt, isr]⟩
  | cons x B =>
    obtain ⟨C, q1, q2, q3⟩ := isr_ok leS_od [] [] B [x] (by simp) (fun _ _ _ _ => trivial) (List.Pairwise.imp (fun _ => trivial) (List.pairwise_of_forall (l := B) (R := fun _ _ => True) (fun _ _ => trivial)))
    have e : srt (x :: B) = C := by
      unfold srt
      have : (x :: B).length - 1 = B.length := by simp
      rw [this]
      simpa using q1
    rw [e]
    exact ⟨by simpa using q2, q3⟩
theorem sort_any {C l : List (Str × Str)} (hp : C.Perm l) (hs : C.Pairwise leS) : adjB C = adjB (srt l) ∧ (adjB C = false → C = srt l) := by
  obtain ⟨h1, h2⟩ := srt_ok l
  have hq : C.Perm (srt l) := hp.trans h1.symm
  have hn : (C.map Prod.fst).Nodup ↔ ((srt l).map Prod.fst).Nodup := (hq.map Prod.fst).nodup_iff
  have a1 := sorted_adj hs
  have a2 := sorted_adj h2
  refine ⟨?_, fun h => sorted_uniq hs h2 hq (a1.1 h)⟩
  cases hC : adjB C <;> cases hS : adjB (srt l)
  · rfl
  · have := a2.2 (hn.1 (a1.1 hC)); rw [this] at hS; cases hS
  · have := a1.2 (hn.2 (a2.1 hS)); rw [this] at hC; cases hC
  · rfl
theorem w1057 {cmp : D} (hcmp : CmpF cmp cF) {o N : Nat} (hN : N ≤ 1000000000) {g : Hp} {l : List (Str × Str)} (hl : l.length = N) (ho : g[o]? = some (.row ty109 2 (l.map fld))) :
    ∃ d g', ∃ C : List (Str × Str), R fn1057 [.msl 2 o 0 N, cmp] g = some (d, g') ∧ C.Perm l ∧ C.Pairwise leS ∧ g'[o]? = some (.row ty109 2 (C.map fld)) ∧ Same o g g' := by
  obtain ⟨⟨d, g'⟩, e, C, q1, q2, q3, q4⟩ := w1063 leS_od hcmp hN hl (List.pairwise_of_forall fun _ _ => trivial) ho
  refine ⟨mkRes [], g', C, ?_, q1, q2, q3, q4⟩
  rw [e1057]
  simp only [F1057, bs, lenm29, e]
theorem s1052w (l : List (Str × Str)) (d : D) (h : Hp) (hd : SlOf 2 fld l d) : ∃ d' h', R fn1052 [d] h = some (.tup [d', .int .i64 (sortF l).1], h') ∧ h.length ≤ h'.length ∧ (∀ q, q < h.length → h'[q]? = h[q]?) ∧ ((sortF l).1 = 0 → RdF h' (sortF l).2 d') := by
  suffices Wp (R fn1052 [d] h) (fun p => ∃ d', p.1 = .tup [d', .int .i64 (sortF l).1] ∧ h.length ≤ p.2.length ∧ (∀ q, q < h.length → p.2[q]? = h[q]?) ∧ ((sortF l).1 = 0 → RdF p.2 (sortF l).2 d')) by
    obtain ⟨⟨x, h'⟩, h1, d', rfl, h2⟩ := this
    exact ⟨d', h', h1, h2⟩
  rw [e1052]
  by_cases h32n : 32 < l.length
  · have h32 : (32 : Int) < (l.length : Int) := by omega
    have hs : sortF l = (4, []) := by simp only [sortF, h32n, if_true]
    rw [hs]
    simp only [F1052, bs, Option.bind_assoc, lens29 hd, dBin_gtr, h32, decide_true, dIf_bool, if_true, mkRes_two]
    exact .some ⟨.nils, rfl, Nat.le_refl _, fun _ _ => rfl, fun hh => by cases hh⟩
  have h32 : ¬ (32 : Int) < (l.length : Int) := by omega
  simp only [F1052, bs, Option.bind_assoc, lens29 hd, dBin_gtr, h32, decide_false, dIf_bool, Bool.false_eq_true, if_false]
  refine l1052a l d h hd (by omega) _ _ _ _ _ (fun hv x y z w => ?_) (fun hv x y z w => ?_)
  · simp only [unblk_self, toEnd_nrm, nth_zero, nth_succ, bs]
    obtain ⟨d1, h1, e1, hl1, hb1, hd1⟩ := u1009 l d h hd (by omega)
    simp only [e1, bs]
    have hsrt : ∃ x h2, ∃ C : List (Str × Str), R fn1057 [d1, .fn (.func fn1058) [] []] h1 = some (x, h2) ∧ h.length ≤ h2.length ∧ (∀ q, q < h.length → h2[q]? = h[q]?) ∧ C.Perm l ∧ C.Pairwise leS ∧ RdF h2 C d1 := by
      rcases hd1 with ⟨rfl, hd1⟩ | ⟨ob, hob, rfl, ho⟩
      · obtain ⟨x, hx⟩ := s1057e d1 (.fn (.func fn1058) [] []) h1 hd1
        exact ⟨x, h1, [], hx, hl1, hb1, List.Perm.refl _, List.Pairwise.nil, .inl hd1⟩
      · obtain ⟨x, h2, C, q1, q2, q3, q4, q5⟩ := w1057 (cmp := .fn (.func fn1058) [] []) (fun x y g => c1058 x y g) (o := ob) (N := l.length) (by omega) rfl ho
        refine ⟨x, h2, C, q1, by have := q5.1; omega, fun q hq => (q5.2 q (by omega)).trans (hb1 q hq), q2, q3, .inr ⟨ob, by rw [q2.length_eq], q4⟩⟩
    obtain ⟨u, h2, C, e2, hl2, hb2, hpC, hsC, hr⟩ := hsrt
    obtain ⟨ad, un⟩ := sort_any hpC hsC
    simp only [e2, bs]
    refine l1052b C d1 h2 hr (by rw [hpC.length_eq]; omega) _ _ _ _ (fun ha x y z => ?_) (fun ha x y z => ?_)
    · have hs : sortF l = (0, srt l) := by simp only [sortF, h32n, if_false, hv, if_true, ← ad, ha, Bool.false_eq_true]
      rw [hs]
      simp only [unblk_self, toEnd_nrm, bs, mkRes_two]
      exact .some ⟨d1, rfl, hl2, hb2, fun _ => by rw [← un ha]; exact hr⟩
    · have hs : sortF l = (7, []) := by simp only [sortF, h32n, if_false, hv, if_true, ← ad, ha]
      rw [hs]
      simp only [unblk_ret, toEnd_ret, exEnd_ret, nth_zero, nth_succ, bs, mkRes_two]
      exact .some ⟨.nils, rfl, hl2, hb2, fun hh => by cases hh⟩
  · have hs : sortF l = (6, []) := by simp only [sortF, h32n, if_false, hv]; rfl
    rw [hs]
    simp only [unblk_ret, toEnd_ret, exEnd_ret, nth_zero, nth_succ, bs, mkRes_two]
    exact .some ⟨.nils, rfl, Nat.le_refl _, fun _ _ => rfl, fun hh => by cases hh⟩
theorem s1043w (e : Ev) (h : Hp) : R fn1043 [.agg (evr e)] h = some (.int .i64 (evE e), h) := s1043g e h fun p => s1052w e.fs e.fd p e.hfd
theorem s1042w (i : It) (h : Hp) : R fn1042 [.agg (itr i)] h = some (.int .i64 (itE i), h) := s1042g i h (s1043w i.e h)
structure Rw where
  k : List Str
  kd : D
  hk : SlOf 1 (fun s => [D.str s]) k kd
  hkl : k.length ≤ 1000000
  n : List Int
  nd : D
  hn : SlOf 1 inr n nd
  hnl : n.length ≤ 1000000
  er : Int
theorem drop_cons {α : Type} {l : List α} {i : Nat} {x : α} (h : l[i]? = some x) : l.drop i = x :: l.drop (i + 1) := by
  obtain ⟨hn, hh⟩ := List.getElem?_eq_some_iff.1 h
  rw [List.drop_eq_getElem_cons hn, hh]
def rwa : Rw := ⟨[], .nils, .nils _ _, by simp, [1], .sl 1 true [[.int .i64 1]], .inr ⟨true, rfl⟩, by simp, 0⟩
theorem s1011g (e : Ev) (h : Hp) : R fn1011 [.agg (evr e)] h = some (.int .i64 (if plB e = true then 0 else 2), h) := by
  rw [e1011]
  simp only [F1011, pBoxF_agg, bs, evr, fa31_0, fa31_1, fa31_2, fa31_3, ld3, dBin_lss, dBin_gtr, dBin_leq]
  by_cases g1 : e.a0 < 0
  · have hp : plB e = false := by
      cases hh : plB e
      · rfl
      · simp [-bind_some, plB] at hh; omega
    simp only [g1, hp, decide_true, decide_false, gd_bool, gd_und, reduceCtorEq, Bool.true_eq_false, Bool.false_eq_true, if_true, if_false, bs, fa31_0, fa31_1, fa31_2, fa31_3, ld3, dBin_lss, dBin_gtr, dBin_leq, dPick_bool, dIf_bool, mkRes_one]
  by_cases g2 : 999 < e.a0
  · have hp : plB e = false := by
      cases hh : plB e
      · rfl
      · simp [-bind_some, plB] at hh; omega
    simp only [g1, g2, hp, decide_true, decide_false, gd_bool, gd_und, reduceCtorEq, Bool.true_eq_false, Bool.false_eq_true, if_true, if_false, bs, fa31_0, fa31_1, fa31_2, fa31_3, ld3, dBin_lss, dBin_gtr, dBin_leq, dPick_bool, dIf_bool, mkRes_one]
  by_cases g3 : e.a1 < 0
  · have hp : plB e = false := by
      cases hh : plB e
      · rfl
      · simp [-bind_some, plB] at hh; omega
    simp only [g1, g2, g3, hp, decide_true, decide_false, gd_bool, gd_und, reduceCtorEq, Bool.true_eq_false, Bool.false_eq_true, if_true, if_false, bs, fa31_0, fa31_1, fa31_2, fa31_3, ld3, dBin_lss, dBin_gtr, dBin_leq, dPick_bool, dIf_bool, mkRes_one]
  by_cases g4 : 2147483646 < e.a1
  · have hp : plB e = false := by
      cases hh : plB e
      · rfl
      · simp [-bind_some, plB] at hh; omega
    simp only [g1, g2, g3, g4, hp, decide_true, decide_false, gd_bool, gd_und, reduceCtorEq, Bool.true_eq_false, Bool.false_eq_true, if_true, if_false, bs, fa31_0, fa31_1, fa31_2, fa31_3, ld3, dBin_lss, dBin_gtr, dBin_leq, dPick_bool, dIf_bool, mkRes_one]
  by_cases g5 : e.a2 < 0
  · have hp : plB e = false := by
      cases hh : plB e
      · rfl
      · simp [-bind_some, plB] at hh; omega
    simp only [g1, g2, g3, g4, g5, hp, decide_true, decide_false, gd_bool, gd_und, reduceCtorEq, Bool.true_eq_false, Bool.false_eq_true, if_true, if_false, bs, fa31_0, fa31_1, fa31_2, fa31_3, ld3, dBin_lss, dBin_gtr, dBin_leq, dPick_bool, dIf_bool, mkRes_one]
  by_cases g6 : e.a3 ≤ e.a2
  · have hp : plB e = false := by
      cases hh : plB e
      · rfl
      · simp [-bind_some, plB] at hh; omega
    simp only [g1, g2, g3, g4, g5, g6, hp, decide_true, decide_false, gd_bool, gd_und, reduceCtorEq, Bool.true_eq_false, Bool.false_eq_true, if_true, if_false, bs, fa31_0, fa31_1, fa31_2, fa31_3, ld3, dBin_lss, dBin_gtr, dBin_leq, dPick_bool, dIf_bool, mkRes_one]
  by_cases g7 : 60000 < e.a3
  · have hp : plB e = false := by
      cases hh : plB e
      · rfl
      · simp [-bind_some, plB] at hh; omega
    simp only [g1, g2, g3, g4, g5, g6, g7, hp, decide_true, decide_false, gd_bool, gd_und, reduceCtorEq, Bool.true_eq_false, Bool.false_eq_true, if_true, if_false, bs, fa31_0, fa31_1, fa31_2, fa31_3, ld3, dBin_lss, dBin_gtr, dBin_leq, dPick_bool, dIf_bool, mkRes_one]
  have hp : plB e = true := by simp [-bind_some, plB]; omega
  simp only [g1, g2, g3, g4, g5, g6, g7, hp, decide_true, decide_false, gd_bool, gd_und, reduceCtorEq, Bool.true_eq_false, Bool.false_eq_true, if_true, if_false, bs, fa31_0, fa31_1, fa31_2, fa31_3, ld3, dBin_lss, dBin_gtr, dBin_leq, dPick_bool, dIf_bool, mkRes_one]
theorem s1014g (w : Int) (h : Hp) : R fn1014 [.int .i64 w] h = some (.bool (decide (¬ (w < 1 ∨ Int.tmod 5040 w ≠ 0))), h) := by
  rw [e1014]
  simp only [F1014, bs, dBin_geq, dBin_leq]
  by_cases h1 : w < 1
  · have g1 : ¬ w ≥ 1 := by omega
    simp only [h1, g1, decide_false, gd_bool, reduceCtorEq, Bool.false_eq_true, if_false, bs, dPick_bool, true_or, not_true, mkRes_one]
  · have g1 : w ≥ 1 := by omega
    have g0 : ¬ w = 0 := by omega
    by_cases h2 : w ≤ 5040
    · by_cases h3 : Int.tmod 5040 w = 0
      · simp only [h1, g1, h2, g0, h3, decide_true, gd_bool, if_true, if_false, bs, dPick_bool, dBin_rem, dBin_leq, dBin_eql, ne_eq, not_true, or_self, not_false_eq_true, mkRes_one]
      · simp only [h1, g1, h2, g0, h3, decide_true, decide_false, gd_bool, if_true, if_false, bs, dPick_bool, dBin_rem, dBin_leq, dBin_eql, ne_eq, not_false_eq_true, or_true, not_true, mkRes_one]
    · have h3 : ¬ Int.tmod 5040 w = 0 := by
        rw [Int.tmod_eq_emod_of_nonneg (by omega), Int.emod_eq_of_lt (by omega) (by omega)]; omega
      simp only [h1, g1, h2, h3, decide_true, decide_false, gd_bool, reduceCtorEq, Bool.false_eq_true, if_true, if_false, bs, dBin_leq, dPick_bool, ne_eq, not_false_eq_true, or_true, not_true, mkRes_one]
theorem s1012g (e : Ev) (m : Int) (h : Hp) : R fn1012 [.agg (evr e), .int .i64 m] h = some (.int .i64 (linesE e m), h) := by
  suffices Wp (R fn1012 [.agg (evr e), .int .i64 m] h) (fun p => p = (.int .i64 (linesE e m), h)) by
    obtain ⟨p, h1, rfl⟩ := this
    exact h1
  rw [e1012]
  simp only [F1012, pBoxF_agg, bs, Option.bind_assoc, evr, fa31_4, fa31_2, ld28, ld3, lens28 e.hld, dBin_eql, dBin_gtr]
  by_cases g0 : e.ls.length = 0
  · have g0' : (e.ls.length : Int) = 0 := by omega
    simp only [g0', decide_true, dIf_bool, if_true, mkRes_one]
    exact .some (by simp [-bind_some, linesE, g0])
  by_cases g4 : 40 < e.ls.length
  · have g0' : ¬ (e.ls.length : Int) = 0 := by omega
    have g4' : (40 : Int) < (e.ls.length : Int) := by omega
    simp only [g0', g4', decide_true, decide_false, Bool.false_eq_true, if_false, dIf_bool, if_true, mkRes_one]
    exact .some (by simp [-bind_some, linesE, g0, g4])
  have g0' : ¬ (e.ls.length : Int) = 0 := by omega
  have g4' : ¬ (40 : Int) < (e.ls.length : Int) := by omega
  have hE : linesE e m = lnE e.a3 m e.a2 e.ls := by simp [-bind_some, linesE, g0, g4]
  rw [hE]
  generalize hV : lnE e.a3 m e.a2 e.ls = V
  simp only [g0', g4', decide_false, Bool.false_eq_true, if_false, dIf_bool]
  refine Wp.loop (fun k ds g => g = h ∧ ∃ a b c d f, ∃ at_ : Int, ∃ i : Nat, ds = [a, .int .i64 at_, .int .i64 (i : Int), b, c, d, f] ∧ k + i = e.ls.length ∧ lnE e.a3 m at_ (e.ls.drop i) = V)
      (fun x => x.2.2 = h ∧ ((x.1 = .ext 0 ∧ V = 0) ∨ (x.1 = .ret ∧ nth 0 x.2.1 = .int .i64 V))) e.ls.length ⟨rfl, _, _, _, _, _, _, 0, rfl, rfl, hV⟩ ?_ ?_
  · rintro k ds g ⟨rfl, a, b, c, d, f, at_, i, rfl, hk, hch⟩
    simp only [F1012_L0, nth_zero, nth_succ, bs, Option.bind_assoc, fa31_4, ld28, lens28 e.hld, dBin_lss]
    refine Wp.dif ?_ ?_
    · intro h0
      have h0 : i < e.ls.length := by have : (i : Int) < e.ls.length := by simpa using h0
                                      omega
      have hg : e.ls[i]? = some e.ls[i] := List.getElem?_eq_getElem h0
      have hw : IntKind.wrap .i64 ((i : Int) + 1) = ((i + 1 : Nat) : Int) := by rw [wrap_i64 (by omega) (by omega)]; omega
      have hw4 : IntKind.wrap .i64 ((e.ls.length : Int) - 1) = (e.ls.length : Int) - 1 := wrap_i64 (by omega) (by omega)
      rw [List.drop_eq_getElem_cons h0] at hch
      generalize e.ls[i] = x at hg hch
      have hix : dIndexAddr tab ty28 e.ld (.int .i64 (i : Int)) = some (.fptr (linr x)) := by rw [ixs28 e.hld]; simp [-bind_some, hg]
      have hr : e.ls.drop (i + 1) = [] ↔ (i : Int) = (e.ls.length : Int) - 1 := by
        rw [List.drop_eq_nil_iff]; omega
      have l0 : dLoad tab g ty78 (.fptr (linr x)) = some (.agg (linr x)) := id rfl
      have l1 : boxN 3 (.agg (linr x)) = some (.fptr (linr x)) := boxN_agg 3 _ rfl
      have f0 : dFieldAddr tab ty78 0 (.fptr (linr x)) = some (.fptr (linr x)) := id rfl
      have f1 : dFieldAddr tab ty78 1 (.fptr (linr x)) = some (.fptr [.int .i64 x.len, .str x.txt]) := id rfl
      have f2 : dFieldAddr tab ty78 2 (.fptr (linr x)) = some (.fptr [.str x.txt]) := id rfl
      have k0 : dLoad tab g ty3 (.fptr (linr x)) = some (.int .i64 x.off) := id rfl
      have k1 : dLoad tab g ty3 (.fptr [.int .i64 x.len, .str x.txt]) = some (.int .i64 x.len) := id rfl
      have k2 : dLoad tab g ty9 (.fptr [.str x.txt]) = some (.str x.txt) := id rfl
      unfold lnE at hch
      simp only [hix, l0, l1, f0, f1, f2, k0, bs, dBin_neq]
      by_cases c1 : x.off = at_
      case neg =>
        rw [if_neg (fun hh => c1 hh.1)] at hch
        simp only [c1, ne_eq, not_false_eq_true, decide_true, gd_bool, gd_und, reduceCtorEq, Bool.true_eq_false, if_false, bs, dPick_bool, if_true, dIf_bool]
        exact .some (.inr ⟨by simp, rfl, .inr ⟨rfl, by rw [← hch]; rfl⟩⟩)
      by_cases c2 : x.len < 1
      · rw [if_neg (fun hh => hh.2.1 c2)] at hch
        simp only [c1, c2, ne_eq, not_true, decide_true, decide_false, gd_bool, gd_und, reduceCtorEq, Bool.true_eq_false, Bool.false_eq_true, if_false, bs, k1, dBin_lss, dPick_bool, if_true, dIf_bool]
        exact .some (.inr ⟨by simp, rfl, .inr ⟨rfl, by rw [← hch]; rfl⟩⟩)
      generalize hT : IntKind.wrap .i64 (e.a3 - at_) = T at hch
      by_cases c3 : T < x.len
      · rw [if_neg (fun hh => hh.2.2.1 c3)] at hch
        simp only [c1, c2, c3, ne_eq, not_true, decide_true, decide_false, gd_bool, gd_und, reduceCtorEq, Bool.true_eq_false, Bool.false_eq_true, if_false, bs, k1, fa31_3, ld3, dBin_sub, hT, dBin_lss, dBin_gtr, dPick_bool, if_true, dIf_bool]
        exact .some (.inr ⟨by simp, rfl, .inr ⟨rfl, by rw [← hch]; rfl⟩⟩)
      by_cases c4 : e.ls.drop (i + 1) = [] ∧ x.len < T
      · rw [if_neg (fun hh => hh.2.2.2 c4)] at hch
        have c5 : (i : Int) = (e.ls.length : Int) - 1 := hr.1 c4.1
        have c6 : ¬ x.len = T := by have := c4.2; omega
        have d5 : decide ((i : Int) = (e.ls.length : Int) - 1) = true := decide_eq_true c5
        simp only [c1, c2, c3, d5, c6, ne_eq, not_true, not_false_eq_true, decide_true, decide_false, gd_bool, gd_und, reduceCtorEq, Bool.true_eq_false, Bool.false_eq_true, if_false, bs, k1, fa31_3, fa31_4, ld28, lens28 e.hld, ld3, dBin_sub, hw4, hT, dBin_lss, dBin_gtr, dBin_eql, dBin_neq, dPick_bool, if_true, dIf_bool]
        exact .some (.inr ⟨by simp, rfl, .inr ⟨rfl, by rw [← hch]; rfl⟩⟩)
      rw [if_pos ⟨c1, c2, c3, c4⟩] at hch
      have c6 : (i : Int) = (e.ls.length : Int) - 1 → x.len = T := fun c5 => by
        have : ¬ x.len < T := fun hh => c4 ⟨hr.2 c5, hh⟩
        omega
      by_cases c7 : m < x.txt.length
      · rw [if_pos c7] at hch
        have c7' : (x.txt.length : Int) > m := c7
        by_cases c5 : (i : Int) = (e.ls.length : Int) - 1
        · replace c6 := c6 c5
          have d5 : decide ((i : Int) = (e.ls.length : Int) - 1) = true := decide_eq_true c5
          have d6 : decide (¬ x.len = T) = false := decide_eq_false (fun hh => hh c6)
          simp only [c1, c2, c3, d5, d6, c7', ne_eq, not_true, not_false_eq_true, decide_true, decide_false, gd_bool, gd_und, reduceCtorEq, Bool.true_eq_false, Bool.false_eq_true, if_false, bs, k1, k2, fa31_3, fa31_4, ld28, lens28 e.hld, ld3, dBin_sub, hw4, hT, dBin_lss, dBin_gtr, dBin_eql, dBin_neq, dPick_bool, if_true, dIf_bool, len9, dBin_add, hw, Int.lt_irrefl]
          exact .some (.inr ⟨by simp, rfl, .inr ⟨rfl, by rw [← hch]; rfl⟩⟩)
        · clear c6
          simp only [c1, c2, c3, c5, c7', ne_eq, not_true, not_false_eq_true, decide_true, decide_false, gd_bool, gd_und, reduceCtorEq, Bool.true_eq_false, Bool.false_eq_true, if_false, bs, k1, k2, fa31_3, fa31_4, ld28, lens28 e.hld, ld3, dBin_sub, hw4, hT, dBin_lss, dBin_gtr, dBin_eql, dBin_neq, dPick_bool, if_true, dIf_bool, len9, dBin_add, hw, Int.lt_irrefl]
          exact .some (.inr ⟨by simp, rfl, .inr ⟨rfl, by rw [← hch]; rfl⟩⟩)
      · rw [if_neg c7] at hch
        have c7' : ¬ (x.txt.length : Int) > m := c7
        by_cases c5 : (i : Int) = (e.ls.length : Int) - 1
        · replace c6 := c6 c5
          have d5 : decide ((i : Int) = (e.ls.length : Int) - 1) = true := decide_eq_true c5
          have d6 : decide (¬ x.len = T) = false := decide_eq_false (fun hh => hh c6)
          simp only [c1, c2, c3, d5, d6, c7', ne_eq, not_true, not_false_eq_true, decide_true, decide_false, gd_bool, gd_und, reduceCtorEq, Bool.true_eq_false, Bool.false_eq_true, if_false, bs, k1, k2, fa31_3, fa31_4, ld28, lens28 e.hld, ld3, dBin_sub, hw4, hT, dBin_lss, dBin_gtr, dBin_eql, dBin_neq, dPick_bool, if_true, dIf_bool, len9, dBin_add, hw, Int.lt_irrefl]
          exact .some (.inl ⟨rfl, k - 1, by omega, rfl, _, _, _, _, _, _, i + 1, rfl, by omega, hch⟩)
        · clear c6
          simp only [c1, c2, c3, c5, c7', ne_eq, not_true, not_false_eq_true, decide_true, decide_false, gd_bool, gd_und, reduceCtorEq, Bool.true_eq_false, Bool.false_eq_true, if_false, bs, k1, k2, fa31_3, fa31_4, ld28, lens28 e.hld, ld3, dBin_sub, hw4, hT, dBin_lss, dBin_gtr, dBin_eql, dBin_neq, dPick_bool, if_true, dIf_bool, len9, dBin_add, hw, Int.lt_irrefl]
          exact .some (.inl ⟨rfl, k - 1, by omega, rfl, _, _, _, _, _, _, i + 1, rfl, by omega, hch⟩)
    · intro h0
      have h0 : e.ls.length ≤ i := by have : ¬ (i : Int) < e.ls.length := by simpa using h0
                                      omega
      rw [List.drop_of_length_le h0] at hch
      exact .some (.inr ⟨by simp, rfl, .inl ⟨rfl, hch.symm⟩⟩)
  · rintro ⟨ex, ds, g⟩ ⟨h2, h3⟩
    simp only at h2 h3
    subst h2
    rcases h3 with ⟨rfl, rfl⟩ | ⟨rfl, hv⟩
    · simp only [unblk_self, toEnd_nrm, bs, mkRes_one]
      exact .some rfl
    · simp only [unblk_ret, toEnd_ret, exEnd_ret, nth_zero, bs, hv, mkRes_one]
      exact .some rfl
def ltS (x y : Str × Str) : Prop := Op.bytesLess x.1 y.1 = true
theorem ltS_le {x y : Str × Str} (h : ltS x y) : leS x y := by
  rw [leS_def]
  cases hh : Op.bytesLess y.1 x.1
  · rfl
  · have := bL_tr h hh
    rw [bL_irr] at this; cases this
theorem lt_adj {C : List (Str × Str)} (h : C.Pairwise ltS) : adjB C = false := by
  rw [sorted_adj (h.imp ltS_le), List.Nodup, List.pairwise_map]
  exact h.imp fun {a b} hab he => by
    have : Op.bytesLess a.1 b.1 = true := hab
    rw [he, bL_irr] at this; cases this
theorem sort_lt {l C : List (Str × Str)} (hp : C.Perm l) (hs : C.Pairwise ltS) (h32 : l.length ≤ 32) (hn : l.all (fun p => fnameOK p.1) = true) : sortF l = (0, C) := by
  obtain ⟨a1, a2⟩ := sort_any hp (hs.imp ltS_le)
  have h := lt_adj hs
  have h32n : ¬ 32 < l.length := by omega
  rw [a2 h]
  rw [h] at a1
  simp only [sortF, h32n, if_false, hn, if_true, ← a1, Bool.false_eq_true]
theorem sort_two {l : List (Str × Str)} (h32 : l.length ≤ 32) (hn : l.all (fun p => fnameOK p.1) = true) (hd : ¬ (l.map Prod.fst).Nodup) : sortF l = (7, []) := by
  obtain ⟨h1, h2⟩ := srt_ok l
  have : adjB (srt l) = true := by
    cases hq : adjB (srt l)
    · rw [sorted_adj h2, (h1.map Prod.fst).nodup_iff] at hq
      exact absurd hq hd
    · rfl
  have h32n : ¬ 32 < l.length := by omega
  simp only [sortF, h32n, if_false, hn, if_true, this]
theorem l1015n (l : List (Str × Str)) (d : D) (h : Hp) (hd : SlOf 2 fld l d) (hl : l.length ≤ 32) (hb : ∀ p ∈ l, p.1.length ≤ 9223372036854775807) {β : Type} {K : Out → Option β} {Q : β → Prop} (a b x1 x2 : D)
    (k1 : l.all (fun p => fnameOK p.1) = true → ∀ x y z, Wp (K (.ext 0, [a, b, x, y, z], h)) Q) (k2 : ¬ l.all (fun p => fnameOK p.1) = true → ∀ x y z, Wp (K (.ret, [.nils, .int .i64 6, x, y, z], h)) Q) :
    Wp ((loopW (F1015_L0 d) [a, b, .int .i64 0, x1, x2] h).bind K) Q := by
  generalize hV : l.all (fun p => fnameOK p.1) = V at k1 k2
  refine Wp.loop (fun k ds g => g = h ∧ ∃ e f, ∃ i : Nat, ds = [a, b, .int .i64 i, e, f] ∧ k + i = l.length ∧ (l.drop i).all (fun p => fnameOK p.1) = V)
      (fun x => x.2.2 = h ∧ ((x.1 = .ext 0 ∧ V = true ∧ ∃ p q r, x.2.1 = [a, b, p, q, r]) ∨ (x.1 = .ret ∧ V = false ∧ ∃ p q r, x.2.1 = [.nils, .int .i64 6, p, q, r]))) l.length ⟨rfl, _, _, 0, rfl, rfl, hV⟩ ?_ ?_
  · rintro k ds g ⟨rfl, e, f, i, rfl, hk, hch⟩
    simp only [F1015_L0, nth_zero, nth_succ, bs, Option.bind_assoc, lens29 hd, dBin_lss]
    refine Wp.dif ?_ ?_
    · intro h0
      have h0 : i < l.length := by have : (i : Int) < l.length := by simpa using h0
                                   omega
      have hg : l[i]? = some l[i] := List.getElem?_eq_getElem h0
      have hw : IntKind.wrap .i64 ((i : Int) + 1) = ((i + 1 : Nat) : Int) := by
        rw [wrap_i64 (by omega) (by omega)]; omega
      have hbx := hb l[i] (List.getElem_mem _)
      rw [List.drop_eq_getElem_cons h0] at hch
      generalize l[i] = x at hg hch hbx
      simp only [ixs29 hd, Int.natCast_nonneg, if_true, Int.toNat_natCast, hg, Option.map_some, bs, fld_f0 x, fld_l0, s1018 x.1 g hbx, dUn_not]
      simp only [List.all_cons] at hch
      cases hf : fnameOK x.1
      · rw [hf] at hch
        simp only [Bool.not_false, dIf_bool, if_true]
        exact .some (.inr ⟨by simp, rfl, .inr ⟨rfl, hch.symm, _, _, _, rfl⟩⟩)
      · rw [hf] at hch
        simp only [Bool.not_true, dIf_bool, Bool.false_eq_true, if_false, dBin_add, bs, hw]
        exact .some (.inl ⟨rfl, k - 1, by omega, rfl, _, _, i + 1, rfl, by omega, hch⟩)
    · intro h0
      have h0 : l.length ≤ i := by have : ¬ (i : Int) < l.length := by simpa using h0
                                   omega
      rw [List.drop_of_length_le h0] at hch
      exact .some (.inr ⟨by simp, rfl, .inl ⟨rfl, hch.symm, _, _, _, rfl⟩⟩)
  · rintro ⟨x, ds, g⟩ ⟨h2, h3⟩
    simp only at h2 h3
    subst h2
    rcases h3 with ⟨rfl, hv, p, q, r, rfl⟩ | ⟨rfl, hv, p, q, r, rfl⟩
    · exact k1 hv _ _ _
    · exact k2 (by rw [hv]; simp [-bind_some]) _ _ _
theorem l1015s (l : List (Str × Str)) (d : D) (hd : SlOf 2 fld l d) (ds0 : List D) (i : Nat) (x : Str × Str) (hx : l[i]? = some x) (hi1 : nth 3 ds0 = .int .i64 (i : Int)) (O : List (Str × Str)) (hOl : O.length ≤ 1000) (ob : Nat) (g : Hp) (hg : g[ob]? = some (.row ty109 2 ((O ++ [x]).map fld))) (b : D) {β : Type} {f : Out → Option β} {Q : β → Prop}
    (K : ∀ (k : Nat) (z : Str × Str) (g' : Hp) (v : D), k ≤ O.length → g'[ob]? = some (.row ty109 2 ((O.take k ++ z :: O.drop k).map fld)) → Same ob g g' → (k = 0 ∨ ∃ y, O[k - 1]? = some y ∧ ¬ ltS x y) → (∀ j y, k ≤ j → O[j]? = some y → ltS x y) → Wp (f (.ext 4, [.int .i64 (k : Int), v], g')) Q) :
    Wp ((loopW (F1015_L2 d ds0 (.msl 2 ob 0 (O.length + 1))) [.int .i64 (O.length : Int), b] g).bind f) Q := by
  refine Wp.loop (fun n ds g' => ∃ c z, ds = [.int .i64 (n : Int), c] ∧ n ≤ O.length ∧ g'[ob]? = some (.row ty109 2 ((O.take n ++ z :: O.drop n).map fld)) ∧ Same ob g g' ∧ ∀ j y, n ≤ j → O[j]? = some y → ltS x y)
    (fun r => r.1 = .ext 4 ∧ ∃ (k : Nat) (z : Str × Str) (v : D), r.2.1 = [.int .i64 (k : Int), v] ∧ k ≤ O.length ∧ r.2.2[ob]? = some (.row ty109 2 ((O.take k ++ z :: O.drop k).map fld)) ∧ Same ob g r.2.2 ∧ (k = 0 ∨ ∃ y, O[k - 1]? = some y ∧ ¬ ltS x y) ∧ (∀ j y, k ≤ j → O[j]? = some y → ltS x y)) O.length
    ⟨_, x, rfl, Nat.le_refl _, by rw [List.take_length, List.drop_length]; exact hg, .refl _ _, fun j y hj hy => by have := (List.getElem?_eq_some_iff.1 hy).1; omega⟩ ?_ ?_
  · rintro n ds g' ⟨c, z, rfl, hn, hg', sm, hall⟩
    have hix : dIndexAddr tab ty29 d (.int .i64 (i : Int)) = some (.fptr (fld x)) := by rw [ixs29 hd]; simp [-bind_some, hx]
    simp only [F1015_L2, nth_zero, nth_succ, bs, Option.bind_assoc, hi1, dBin_gtr]
    by_cases h0 : n = 0
    · subst h0
      have d0 : decide (((0 : Nat) : Int) > 0) = false := decide_eq_false (by omega)
      simp only [d0, gd_bool, gd_und, reduceCtorEq, if_false, if_true, bs, dPick_bool, Bool.false_eq_true, dIf_bool]
      exact .some (.inr ⟨by simp, rfl, 0, z, _, rfl, by omega, hg', sm, .inl rfl, hall⟩)
    · obtain ⟨m, rfl⟩ : ∃ m, n = m + 1 := ⟨n - 1, by omega⟩
      have d0 : decide (((m + 1 : Nat) : Int) > 0) = true := decide_eq_true (by omega)
      have hw : IntKind.wrap .i64 (((m + 1 : Nat) : Int) - 1) = (m : Int) := by rw [wrap_i64 (by omega) (by omega)]; omega
      obtain ⟨y, hy⟩ : ∃ y, O[m]? = some y := ⟨_, List.getElem?_eq_getElem (by omega)⟩
      have htl : (O.take (m + 1)).length = m + 1 := by simp; omega
      have hym : ((O.take (m + 1) ++ z :: O.drop (m + 1)).map fld)[m]? = some (fld y) := by
        rw [List.getElem?_map, List.getElem?_append_left (by omega), List.getElem?_take, if_pos (by omega), hy]; rfl
      have hzm : ((O.take (m + 1) ++ z :: O.drop (m + 1)).map fld)[m + 1]? = some (fld z) := by
        rw [List.getElem?_map, get_midn _ _ z _ htl]; rfl
      have iy : dIndexAddr tab ty29 (.msl 2 ob 0 (O.length + 1)) (.int .i64 (m : Int)) = some (.ptr ob m 0) := by rw [ixm29, if_pos (by omega)]; simp [-bind_some]
      have iz : dIndexAddr tab ty29 (.msl 2 ob 0 (O.length + 1)) (.int .i64 ((m + 1 : Nat) : Int)) = some (.ptr ob (m + 1) 0) := by rw [ixm29, if_pos (by omega)]; simp [-bind_some]
      have ly : dLoad tab g' ty9 (.ptr ob m 0) = some (.str y.1) := by rw [ldp9, row_of hg', hym]; rfl
      have lyr : dLoad tab g' ty109 (.ptr ob m 0) = some (.agg (fld y)) := by rw [ldp109, row_of hg', hym]; rfl
      simp only [d0, gd_bool, if_true, bs, dBin_sub, hw, iy, fap109_0, ly, hix, fld_f0 x, fld_l0, sgtr, dPick_bool]
      by_cases hlt : ltS x y
      · have hb : (!(Op.bytesLess y.1 x.1 || y.1 == x.1)) = true := by
          have h1 : Op.bytesLess x.1 y.1 = true := hlt
          have h2 : Op.bytesLess y.1 x.1 = false := (leS_def x y).1 (ltS_le hlt)
          have h3 : (y.1 == x.1) = false := by
            cases hq : (y.1 == x.1)
            · rfl
            · rw [eq_of_beq hq, bL_irr] at h1; cases h1
          rw [h2, h3]; rfl
        simp only [hb, dIf_bool, if_true, dBin_sub, hw, iy, lyr, iz, bs, Option.bind_assoc]
        refine wst109 (off := 0) hg' hzm (by rfl) (by exact Nat.le_refl _) (by rfl) fun g2 p2 s2 => ?_
        have hset : ((O.take (m + 1) ++ z :: O.drop (m + 1)).map fld).set (m + 1) (spl (fld z) 0 (cells1 (.agg (fld y)))) = (O.take m ++ y :: O.drop m).map fld := by
          rw [show spl (fld z) 0 (cells1 (.agg (fld y))) = fld y from rfl, ← List.map_set, set_mid _ _ z y _ htl, drop_cons hy, List.take_add_one, hy]
          simp [-bind_some]
        rw [hset] at p2
        try simp only [bs, dBin_sub, hw]
        exact .some (.inl ⟨rfl, m, by omega, _, y, rfl, by omega, p2, sm.trans s2, fun j y' hj hy' => by
          by_cases hjm : j = m
          · subst hjm; rw [hy] at hy'; injection hy' with hy'; subst hy'; exact hlt
          · exact hall j y' (by omega) hy'⟩)
      · have hb : (!(Op.bytesLess y.1 x.1 || y.1 == x.1)) = false := by
          by_cases h3 : y.1 = x.1
          · have : (y.1 == x.1) = true := by simpa using h3
            rw [this]; simp [-bind_some]
          · have h1 : Op.bytesLess x.1 y.1 = false := by
              cases hq : Op.bytesLess x.1 y.1
              · rfl
              · exact absurd hq hlt
            have h2 := bL_tot h1 (fun hh => h3 hh.symm)
            rw [h2]; rfl
        simp only [hb, dIf_bool, Bool.false_eq_true, if_false]
        exact .some (.inr ⟨by simp, rfl, m + 1, z, _, rfl, hn, hg', sm, .inr ⟨y, by simpa using hy, hlt⟩, hall⟩)
  · rintro ⟨ex, ds, g'⟩ ⟨rfl, k, z, v, rfl, k1, k2, k3, k4, k5⟩
    exact K k z g' v k1 k2 k3 k4 k5
theorem ltS_tr {x y z : Str × Str} (h : ltS x y) (k : ltS y z) : ltS x z := bL_tr h k
theorem ins_lt {O : List (Str × Str)} {y : Str × Str} {k : Nat} (hs : O.Pairwise ltS) (h1 : k = 0 ∨ ∃ z, O[k - 1]? = some z ∧ ltS z y) (h2 : ∀ j z, k ≤ j → O[j]? = some z → ltS y z) : (O.take k ++ y :: O.drop k).Pairwise ltS := by
  rw [List.pairwise_append]
  have hs' := hs
  rw [← List.take_append_drop k O, List.pairwise_append] at hs'
  have q1 : ∀ a ∈ O.take k, ltS a y := by
    intro a ha
    rcases h1 with rfl | ⟨z, hz, hzy⟩
    · simp at ha
    · obtain ⟨j, hj⟩ := List.getElem?_of_mem ha
      rw [List.getElem?_take] at hj
      split at hj
      · rename_i hjk
        by_cases hjz : j = k - 1
        · subst hjz; rw [hz] at hj; injection hj with hj; subst hj; exact hzy
        · obtain ⟨n1, e1⟩ := List.getElem?_eq_some_iff.1 hj
          obtain ⟨n2, e2⟩ := List.getElem?_eq_some_iff.1 hz
          have := List.pairwise_iff_getElem.1 hs j (k - 1) n1 n2 (by omega)
          rw [e1, e2] at this
          exact ltS_tr this hzy
      · cases hj
  have q2 : ∀ b ∈ O.drop k, ltS y b := by
    intro b hb
    obtain ⟨j, hj⟩ := List.getElem?_of_mem hb
    rw [List.getElem?_drop] at hj
    exact h2 (k + j) b (by omega) hj
  refine ⟨hs'.1, List.pairwise_cons.2 ⟨q2, hs'.2.1⟩, fun a ha b hb => ?_⟩
  rcases List.mem_cons.1 hb with rfl | hb
  · exact q1 a ha
  · exact hs'.2.2 a ha b hb
theorem dup_not {l : List (Str × Str)} {i : Nat} {y z : Str × Str} (hy : l[i]? = some y) (hz : z ∈ l.take i) (he : z.1 = y.1) : ¬ (l.map Prod.fst).Nodup := by
  intro hn
  have e : l = l.take i ++ y :: l.drop (i + 1) := by
    rw [← drop_cons hy, List.take_append_drop]
  rw [e, List.map_append, List.map_cons, List.nodup_append] at hn
  exact hn.2.2 z.1 (List.mem_map.2 ⟨z, hz, rfl⟩) y.1 (by simp) he
theorem s1015g (l : List (Str × Str)) (d : D) (h : Hp) (hd : SlOf 2 fld l d) (hb : ∀ p ∈ l, p.1.length ≤ 9223372036854775807) : ∃ d', R fn1015 [d] h = some (.tup [d', .int .i64 (sortF l).1], h) ∧ ((sortF l).1 = 0 → SlOf 2 fld (sortF l).2 d') := by
  suffices Wp (R fn1015 [d] h) (fun p => p.2 = h ∧ ∃ d', p.1 = .tup [d', .int .i64 (sortF l).1] ∧ ((sortF l).1 = 0 → SlOf 2 fld (sortF l).2 d')) by
    obtain ⟨⟨x, h'⟩, h1, rfl, d', rfl, h2⟩ := this
    exact ⟨d', h1, h2⟩
  have sc : ∀ (g : Hp) (v : Int), h.length ≤ g.length → (∀ q, q < h.length → g[q]? = h[q]?) → scope h g (.tup [.nils, .int .i64 v]) = some (.tup [.nils, .int .i64 v], h) := fun g v h1 h2 => scope_eq (by simp) (.tup _ fun x hx => by
    simp only [List.mem_cons, List.not_mem_nil, or_false] at hx
    rcases hx with rfl | rfl
    · exact .nils
    · exact .int _ _) h1 h2
  rw [e1015]
  by_cases h32n : 32 < l.length
  · have h32 : decide ((l.length : Int) > 32) = true := decide_eq_true (by omega)
    have hs : sortF l = (4, []) := by simp only [sortF, h32n, if_true]
    rw [hs]
    simp only [F1015, bs, Option.bind_assoc, lens29 hd, dBin_gtr, h32, dIf_bool, if_true, mkRes_two, sc h 4 (Nat.le_refl _) (fun _ _ => rfl)]
    exact .some ⟨rfl, .nils, rfl, fun hh => by cases hh⟩
  have h32 : decide ((l.length : Int) > 32) = false := decide_eq_false (by omega)
  simp only [F1015, bs, Option.bind_assoc, lens29 hd, dBin_gtr, h32, dIf_bool, Bool.false_eq_true, if_false]
  refine l1015n l d h hd (by omega) hb _ _ _ _ (fun hv x y z => ?_) (fun hv x y z => ?_)
  case refine_2 =>
    have hs : sortF l = (6, []) := by simp only [sortF, h32n, if_false, hv]; rfl
    rw [hs]
    simp only [unblk_ret, toEnd_ret, exEnd_ret, nth_zero, nth_succ, bs, mkRes_two, sc h 6 (Nat.le_refl _) (fun _ _ => rfl)]
    exact .some ⟨rfl, .nils, rfl, fun hh => by cases hh⟩
  simp only [unblk_self, toEnd_nrm, nth_zero, nth_succ, bs, Option.bind_assoc]
  clear x y z
  refine Wp.loop (fun k ds g => h.length ≤ g.length ∧ (∀ q, q < h.length → g[q]? = h[q]?) ∧ ∃ a b x c e f u, ∃ (i : Nat) (O : List (Str × Str)), ds = [a, b, x, .int .i64 (i : Int), c, e, f, u] ∧ k + i = l.length ∧ Own g h.length ty109 2 (O.map fld) x ∧ O.Perm (l.take i) ∧ O.Pairwise ltS)
      (fun r => h.length ≤ r.2.2.length ∧ (∀ q, q < h.length → r.2.2[q]? = h[q]?) ∧ ((r.1 = .ext 2 ∧ ∃ O : List (Str × Str), Own r.2.2 h.length ty109 2 (O.map fld) (nth 2 r.2.1) ∧ sortF l = (0, O)) ∨ (r.1 = .ret ∧ nth 0 r.2.1 = .nils ∧ nth 1 r.2.1 = .int .i64 7 ∧ sortF l = (7, [])))) l.length
      ⟨Nat.le_refl _, fun _ _ => rfl, _, _, _, _, _, _, _, 0, [], rfl, rfl, Own.nils _ _ _ _, by simp, List.Pairwise.nil⟩ ?_ ?_
  · rintro k ds g ⟨hgl, hgq, a, b, x, c, e, f, u, i, O, rfl, hk, ow, hp, hs⟩
    simp only [F1015_L1, nth_zero, nth_succ, bs, Option.bind_assoc, lens29 hd, dBin_lss]
    refine Wp.dif ?_ ?_
    · intro h0
      have h0 : i < l.length := by have : (i : Int) < l.length := by simpa using h0
                                   omega
      obtain ⟨y, hy⟩ : ∃ y, l[i]? = some y := ⟨_, List.getElem?_eq_getElem h0⟩
      have hw : IntKind.wrap .i64 ((i : Int) + 1) = ((i + 1 : Nat) : Int) := by rw [wrap_i64 (by omega) (by omega)]; omega
      have hOl : O.length = i := by rw [hp.length_eq, List.length_take]; omega
      have hlit : pLitF tab ty29 1 [0] [.agg (fld y)] = some (.sl 2 true [fld y]) := id rfl
      have hix : dIndexAddr tab ty29 d (.int .i64 (i : Int)) = some (.fptr (fld y)) := by rw [ixs29 hd]; simp [-bind_some, hy]
      simp only [leno29 ow, List.length_map, hix, bs, fld_ld, hlit, Option.bind_assoc]
      refine wap29 hgl ow (rowsOf_sl _ _ _ _) (by simp only [List.length_map, List.length_cons, List.length_nil]; omega) fun x1 g1 ow1 len1 bel1 _ _ => ?_
      have hrow : O.map fld ++ [fld y] = (O ++ [y]).map fld := by simp
      rw [hrow] at ow1
      obtain ⟨ob, hob, rfl, hgo⟩ := own_ix ow1 (i := 0) (by simp)
      have hlen1 : ((O ++ [y]).map fld).length = O.length + 1 := by simp
      rw [hlen1]
      try simp only [bs]
      refine l1015s l d hd [a, b, x, .int .i64 (i : Int), c, e, f, u] i y hy rfl O (by omega) ob g1 hgo _ fun k' z g2 v k1 k2 k3 k4 k5 => ?_
      have hm : (O.take k').length = k' := by simp; omega
      have hzk : ((O.take k' ++ z :: O.drop k').map fld)[k']? = some (fld z) := by rw [List.getElem?_map, get_midn _ _ z _ hm]; rfl
      have ik : dIndexAddr tab ty29 (.msl 2 ob 0 (O.length + 1)) (.int .i64 (k' : Int)) = some (.ptr ob k' 0) := by rw [ixm29, if_pos (by omega)]; simp [-bind_some]
      simp only [unblk_self, toEnd_nrm, bs, nth_zero, nth_succ, Option.bind_assoc, hix, fld_ld, ik]
      refine wst109 (off := 0) k2 hzk (by rfl) (by exact Nat.le_refl _) (by rfl) fun g3 p3 s3 => ?_
      rw [show spl (fld z) 0 (cells1 (.agg (fld y))) = fld y from rfl, ← List.map_set, set_mid _ _ z y _ hm] at p3
      have hlenN : (O.take k' ++ y :: O.drop k').length = O.length + 1 := by
        have := congrArg List.length (List.take_append_drop k' O)
        simp only [List.length_append, List.length_cons] at this ⊢; omega
      have ow3 : Own g3 h.length ty109 2 ((O.take k' ++ y :: O.drop k').map fld) (.msl 2 ob 0 (O.length + 1)) := .inr ⟨ob, hob, by rw [List.length_map, hlenN], p3⟩
      have hgl3 : h.length ≤ g3.length := by have := s3.1; have := k3.1; omega
      have hgq3 : ∀ q, q < h.length → g3[q]? = h[q]? := fun q hq => by rw [s3.2 q (by omega), k3.2 q (by omega), bel1 q hq]; exact hgq q hq
      have hpN : (O.take k' ++ y :: O.drop k').Perm (l.take (i + 1)) := by
        rw [List.take_add_one, hy, Option.toList_some]
        refine List.perm_middle.trans ?_
        rw [List.take_append_drop]
        exact (List.Perm.cons y hp).trans (by simpa using (List.perm_append_comm (l₁ := [y]) (l₂ := l.take i)))
      have nxt : (O.take k' ++ y :: O.drop k').Pairwise ltS → ∀ (c1 c2 c3 c4 c5 c6 : D), (fun r : Out => (r.1 = .nrm ∧ ∃ k'' , k'' < k ∧ h.length ≤ r.2.2.length ∧ (∀ q, q < h.length → r.2.2[q]? = h[q]?) ∧ ∃ a b x c e f u, ∃ (i : Nat) (O : List (Str × Str)), r.2.1 = [a, b, x, .int .i64 (i : Int), c, e, f, u] ∧ k'' + i = l.length ∧ Own r.2.2 h.length ty109 2 (O.map fld) x ∧ O.Perm (l.take i) ∧ O.Pairwise ltS)) (.nrm, [c1, c2, .msl 2 ob 0 (O.length + 1), .int .i64 ((i + 1 : Nat) : Int), c3, c4, c5, c6], g3) := fun hs3 c1 c2 c3 c4 c5 c6 => ⟨rfl, k - 1, by omega, hgl3, hgq3, _, _, _, _, _, _, _, i + 1, _, rfl, by omega, ow3, hpN, hs3⟩
      try simp only [bs, dBin_gtr, Option.bind_assoc]
      by_cases hk0 : k' = 0
      · subst hk0
        have d0 : decide (((0 : Nat) : Int) > 0) = false := decide_eq_false (by omega)
        simp only [d0, gd_bool, gd_und, reduceCtorEq, if_false, if_true, bs, dPick_bool, Bool.false_eq_true, dIf_bool, dBin_add, hw]
        exact .some (.inl (nxt (ins_lt hs (.inl rfl) k5) _ _ _ _ _ _))
      · obtain ⟨w, hwk, hwn⟩ := k4.resolve_left hk0
        have d0 : decide ((k' : Int) > 0) = true := decide_eq_true (by omega)
        have hw1 : IntKind.wrap .i64 ((k' : Int) - 1) = ((k' - 1 : Nat) : Int) := by rw [wrap_i64 (by omega) (by omega)]; omega
        have iw : dIndexAddr tab ty29 (.msl 2 ob 0 (O.length + 1)) (.int .i64 ((k' - 1 : Nat) : Int)) = some (.ptr ob (k' - 1) 0) := by rw [ixm29, if_pos (by omega)]; simp [-bind_some]
        have hwr : ((O.take k' ++ y :: O.drop k').map fld)[k' - 1]? = some (fld w) := by
          rw [List.getElem?_map, List.getElem?_append_left (by omega), List.getElem?_take, if_pos (by omega), hwk]; rfl
        have lw : dLoad tab g3 ty9 (.ptr ob (k' - 1) 0) = some (.str w.1) := by rw [ldp9, row_of p3, hwr]; rfl
        simp only [d0, gd_bool, if_true, bs, dBin_sub, hw1, iw, fap109_0, lw, hix, fld_f0 y, fld_l0, dBin_seql, dPick_bool]
        by_cases heq : w.1 = y.1
        · have hb1 : (w.1 == y.1) = true := by simpa using heq
          have hwm : w ∈ l.take i := hp.mem_iff.1 (List.mem_of_getElem? hwk)
          have hd7 := sort_two (l := l) (by omega) hv (dup_not hy hwm heq)
          simp only [hb1, dIf_bool, if_true]
          exact .some (.inr ⟨by simp, hgl3, hgq3, .inr ⟨rfl, rfl, rfl, hd7⟩⟩)
        · have hb1 : (w.1 == y.1) = false := by simpa using heq
          have hwy : ltS w y := by
            have h1 : Op.bytesLess y.1 w.1 = false := by
              cases hq : Op.bytesLess y.1 w.1
              · rfl
              · exact absurd hq hwn
            exact bL_tot h1 (fun hh => heq hh.symm)
          simp only [hb1, dIf_bool, Bool.false_eq_true, if_false, dBin_add, hw, bs]
          exact .some (.inl (nxt (ins_lt hs (.inr ⟨w, hwk, hwy⟩) k5) _ _ _ _ _ _))
    · intro h0
      have h0 : l.length ≤ i := by have : ¬ (i : Int) < l.length := by simpa using h0
                                   omega
      rw [List.take_of_length_le h0] at hp
      exact .some (.inr ⟨by simp, hgl, hgq, .inl ⟨rfl, O, ow, sort_lt hp hs (by omega) hv⟩⟩)
  · rintro ⟨ex, ds, g⟩ ⟨hgl, hgq, h3⟩
    rcases h3 with ⟨rfl, O, ow, hO⟩ | ⟨rfl, n0, n1, hO⟩
    · have hs := own_sl (n0 := h.length) (n := 2) ow (Nat.le_refl _) fun p _ y hy => by
        simp only [fld, List.mem_cons, List.not_mem_nil, or_false] at hy
        rcases hy with rfl | rfl <;> exact frz_str _ _ _ _
      have hsc : scope h g (.tup [nth 2 ds, .int .i64 0]) = some (.tup [frz h.length g 3 (nth 2 ds), .int .i64 0], h) := by
        refine scope_eq (by simp) (.tup _ fun x hx => ?_) hgl hgq
        simp only [List.mem_cons, List.not_mem_nil, or_false] at hx
        rcases hx with rfl | rfl
        · exact slof_ok hs fun p _ y hy => by
            simp only [fld, List.mem_cons, List.not_mem_nil, or_false] at hy
            rcases hy with rfl | rfl <;> exact .str _
        · exact .int _ _
      simp only [unblk_self, toEnd_nrm, bs, nth_zero, nth_succ, mkRes_two, hsc, hO]
      exact .some ⟨rfl, _, rfl, fun _ => hs⟩
    · replace n0 : nth 0 ds = .nils := n0
      replace n1 : nth 1 ds = .int .i64 7 := n1
      simp only [unblk_ret, toEnd_ret, exEnd_ret, nth_zero, nth_succ, bs, n0, n1, mkRes_two, sc g 7 hgl hgq, hO]
      exact .some ⟨rfl, .nils, rfl, fun hh => by cases hh⟩
theorem l1010 (l : List (Str × Str)) (d : D) (h : Hp) (hd : SlOf 2 fld l d) (hl : l.length ≤ 1000) {β : Type} {K : Out → Option β} {Q : β → Prop} (a x1 x2 : D)
    (k1 : (l.any fun p => decide (2000 < p.2.length)) = false → ∀ x y z, Wp (K (.ext 0, [a, x, y, z], h)) Q) (k2 : (l.any fun p => decide (2000 < p.2.length)) = true → ∀ x y z, Wp (K (.ret, [.int .i64 3, x, y, z], h)) Q) :
    Wp ((loopW (F1010_L0 d) [a, .int .i64 0, x1, x2] h).bind K) Q := by
  generalize hV : (l.any fun p => decide (2000 < p.2.length)) = V at k1 k2
  refine Wp.loop (fun k ds g => g = h ∧ ∃ e f, ∃ i : Nat, ds = [a, .int .i64 (i : Int), e, f] ∧ k + i = l.length ∧ ((l.drop i).any fun p => decide (2000 < p.2.length)) = V)
      (fun x => x.2.2 = h ∧ ((x.1 = .ext 0 ∧ V = false ∧ ∃ p q r, x.2.1 = [a, p, q, r]) ∨ (x.1 = .ret ∧ V = true ∧ ∃ p q r, x.2.1 = [.int .i64 3, p, q, r]))) l.length ⟨rfl, _, _, 0, rfl, rfl, hV⟩ ?_ ?_
  · rintro k ds g ⟨rfl, e, f, i, rfl, hk, hch⟩
    simp only [F1010_L0, nth_zero, nth_succ, bs, Option.bind_assoc, lens29 hd, dBin_lss]
    refine Wp.dif ?_ ?_
    · intro h0
      have h0 : i < l.length := by have : (i : Int) < l.length := by simpa using h0
                                   omega
      obtain ⟨x, hx⟩ : ∃ x, l[i]? = some x := ⟨_, List.getElem?_eq_getElem h0⟩
      have hw : IntKind.wrap .i64 ((i : Int) + 1) = ((i + 1 : Nat) : Int) := by rw [wrap_i64 (by omega) (by omega)]; omega
      rw [drop_cons hx] at hch
      have hix : dIndexAddr tab ty29 d (.int .i64 (i : Int)) = some (.fptr (fld x)) := by rw [ixs29 hd]; simp [-bind_some, hx]
      have f1 : dFieldAddr tab ty109 1 (.fptr (fld x)) = some (.fptr [.str x.2]) := id rfl
      have l1 : dLoad tab g ty9 (.fptr [.str x.2]) = some (.str x.2) := id rfl
      simp only [hix, f1, l1, bs, len9, dBin_gtr]
      simp only [List.any_cons] at hch
      by_cases hf : 2000 < x.2.length
      · have hf' : (x.2.length : Int) > 2000 := by omega
        simp only [hf, decide_true, Bool.true_or] at hch
        simp only [hf', decide_true, dIf_bool, if_true]
        exact .some (.inr ⟨by simp, rfl, .inr ⟨rfl, hch.symm, _, _, _, rfl⟩⟩)
      · have hf' : ¬ (x.2.length : Int) > 2000 := by omega
        simp only [hf, decide_false, Bool.false_or] at hch
        simp only [hf', decide_false, dIf_bool, Bool.false_eq_true, if_false, dBin_add, bs, hw]
        exact .some (.inl ⟨rfl, k - 1, by omega, rfl, _, _, i + 1, rfl, by omega, hch⟩)
    · intro h0
      have h0 : l.length ≤ i := by have : ¬ (i : Int) < l.length := by simpa using h0
                                   omega
      rw [List.drop_of_length_le h0] at hch
      exact .some (.inr ⟨by simp, rfl, .inl ⟨rfl, hch.symm, _, _, _, rfl⟩⟩)
  · rintro ⟨x, ds, g⟩ ⟨h2, h3⟩
    simp only at h2 h3
    subst h2
    rcases h3 with ⟨rfl, hv, p, q, r, rfl⟩ | ⟨rfl, hv, p, q, r, rfl⟩
    · exact k1 hv _ _ _
    · exact k2 hv _ _ _
def NmB (e : Ev) : Prop := ∀ p ∈ e.fs, p.1.length ≤ 9223372036854775807
theorem s1010g (e : Ev) (h : Hp) (hb : NmB e) : R fn1010 [.agg (evr e)] h = some (.int .i64 (evE e), h) := by
  suffices Wp (R fn1010 [.agg (evr e)] h) (fun p => p = (.int .i64 (evE e), h)) by
    obtain ⟨p, h1, rfl⟩ := this
    exact h1
  have q5 : dFieldAddr tab ty31 5 (.fptr (evr e)) = some (.fptr [.int .i64 e.a5, .int .i64 e.a6, .str e.s7, .str e.s8, e.fd]) := id rfl
  have q6 : dFieldAddr tab ty31 6 (.fptr (evr e)) = some (.fptr [.int .i64 e.a6, .str e.s7, .str e.s8, e.fd]) := id rfl
  have q7 : dFieldAddr tab ty31 7 (.fptr (evr e)) = some (.fptr [.str e.s7, .str e.s8, e.fd]) := id rfl
  have q8 : dFieldAddr tab ty31 8 (.fptr (evr e)) = some (.fptr [.str e.s8, e.fd]) := id rfl
  have q9 : dFieldAddr tab ty31 9 (.fptr (evr e)) = some (.fptr [e.fd]) := id rfl
  have l9 : ∀ g, dLoad tab g ty29 (.fptr [e.fd]) = some e.fd := fun g => by
    have h1 := slof_one e.hfd
    generalize e.fd = a at h1
    cases a <;> first | rfl | (simp [-bind_some, D.one] at h1)
  have hL : ∀ g, dLoad tab g ty31 (.fptr (evr e)) = some (.agg (evr e)) := fun g => id rfl
  rw [e1010]
  simp only [F1010, pBoxF_agg, bs, Option.bind_assoc, hL, s1011g, q5, q6, q7, q8, q9]
  unfold evE
  by_cases c1 : plB e = true
  case neg =>
    have c1' : plB e = false := by simpa using c1
    simp only [c1', Bool.false_eq_true, if_false, dBin_neq, ne_eq, show ¬ (2 : Int) = 0 by omega, not_false_eq_true, decide_true, gd_bool, gd_und, reduceCtorEq, Bool.true_eq_false, bs, dPick_bool, if_true, dIf_bool, Bool.not_false, Bool.true_or, mkRes_one]
    exact .some rfl
  by_cases c2 : e.a5 < 0
  · have c2' : ¬ 0 ≤ e.a5 := by omega
    simp only [c1, c2, c2', if_true, dBin_neq, ne_eq, not_true, decide_true, decide_false, gd_bool, gd_und, ld3, dBin_lss, reduceCtorEq, Bool.true_eq_false, Bool.false_eq_true, if_false, bs, dPick_bool, dIf_bool, Bool.not_true, Bool.false_and, Bool.not_false, Bool.or_true, mkRes_one]
    exact .some rfl
  have c2' : 0 ≤ e.a5 := by omega
  by_cases c3 : 253402300799999 < e.a5
  · have c3' : ¬ e.a5 ≤ 253402300799999 := by omega
    simp only [c1, c2, c2', c3, c3', if_true, dBin_neq, ne_eq, not_true, decide_true, decide_false, gd_bool, gd_und, ld3, dBin_lss, dBin_gtr, reduceCtorEq, Bool.true_eq_false, Bool.false_eq_true, if_false, bs, dPick_bool, dIf_bool, Bool.not_true, Bool.and_false, Bool.not_false, Bool.or_true, mkRes_one, gt_iff_lt]
    exact .some rfl
  have c3' : e.a5 ≤ 253402300799999 := by omega
  simp only [c1, c2, c2', c3, c3', if_true, dBin_neq, ne_eq, not_true, decide_true, decide_false, gd_bool, gd_und, ld3, dBin_lss, dBin_gtr, reduceCtorEq, Bool.true_eq_false, Bool.false_eq_true, if_false, bs, dPick_bool, dIf_bool, Bool.not_true, Bool.and_true, Bool.or_self, Bool.and_self, gt_iff_lt, s1014g, dUn_not, Option.bind_assoc]
  by_cases c4 : e.a6 < 1 ∨ ¬ Int.tmod 5040 e.a6 = 0
  · simp only [c4, not_true, decide_false, Bool.not_false, if_true, mkRes_one]
    exact .some rfl
  simp only [c4, not_false_eq_true, decide_true, Bool.not_true, Bool.false_eq_true, if_false, hL, s1012g, bs, dBin_neq, ne_eq]
  generalize hLn : linesE e 2000 = L
  by_cases c5 : L = 0
  case neg =>
    simp only [c5, not_false_eq_true, decide_true, if_true, mkRes_one]
    exact .some rfl
  subst c5
  simp only [not_true, decide_false, Bool.false_eq_true, if_false, ld9, len9, bs, dBin_gtr, gt_iff_lt]
  by_cases c6 : 32 < e.s7.length
  · have c6' : (32 : Int) < (e.s7.length : Int) := by omega
    simp only [c6, c6', true_or, decide_true, if_true, gd_bool, gd_und, reduceCtorEq, if_false, Bool.true_eq_false, bs, dPick_bool, dIf_bool, mkRes_one]
    exact .some rfl
  have c6' : ¬ (32 : Int) < (e.s7.length : Int) := by omega
  by_cases c7 : 32 < e.s8.length
  · have c7' : (32 : Int) < (e.s8.length : Int) := by omega
    simp only [c6, c6', c7, c7', or_true, decide_true, decide_false, if_true, gd_bool, if_false, Bool.false_eq_true, bs, ld9, len9, dBin_gtr, gt_iff_lt, dPick_bool, dIf_bool, mkRes_one]
    exact .some rfl
  have c7' : ¬ (32 : Int) < (e.s8.length : Int) := by omega
  obtain ⟨d', hs, hsl⟩ := s1015g e.fs e.fd h e.hfd hb
  simp only [c6, c6', c7, c7', or_self, decide_false, if_true, gd_bool, if_false, Bool.false_eq_true, bs, ld9, len9, dBin_gtr, gt_iff_lt, dPick_bool, dIf_bool, l9, hs, dExtract_tup, List.getElem?_cons_zero, List.getElem?_cons_succ, dBin_neq, ne_eq]
  have hsl2 := sortF_len e.fs
  have hs32 : (sortF e.fs).1 = 0 → (sortF e.fs).2.length ≤ 1000 := fun h0 => by
    unfold sortF at h0 ⊢
    split
    · simp [-bind_some]
    · split
      · split
        · simp [-bind_some]
        · simp only [srt_len]; omega
      · simp [-bind_some]
  generalize hS : sortF e.fs = S at hs hsl hsl2 hs32
  obtain ⟨v, s⟩ := S
  simp only at hsl hsl2 hs32 ⊢
  by_cases c8 : v = 0
  case neg =>
    simp only [c8, not_false_eq_true, decide_true, if_true, mkRes_one]
    exact .some rfl
  subst c8
  have hsd := hsl rfl
  have hsn := hs32 rfl
  simp only [not_true, decide_false, Bool.false_eq_true, if_false, bs, s95 s e.fs d' e.fd h hsd e.hfd (by omega), dUn_not, Option.bind_assoc]
  by_cases c9 : s = e.fs
  case neg =>
    simp only [c9, decide_false, Bool.not_false, if_true, not_false_eq_true, mkRes_one]
    exact .some rfl
  simp only [c9, decide_true, Bool.not_true, Bool.false_eq_true, if_false, not_true]
  rw [c9] at hsd hsn
  refine l1010 e.fs d' h hsd hsn _ _ _ (fun hv x y z => ?_) (fun hv x y z => ?_)
  · simp only [unblk_self, toEnd_nrm, bs, mkRes_one, hv, Bool.false_eq_true, if_false]
    exact .some rfl
  · simp only [unblk_ret, toEnd_ret, exEnd_ret, nth_zero, bs, mkRes_one, hv, if_true]
    exact .some rfl
theorem lnE_vals (t m : Int) : ∀ (l : List Lin) (a : Int), lnE t m a l = 0 ∨ lnE t m a l = 3 ∨ lnE t m a l = 19
  | [], a => .inl rfl
  | x :: r, a => by
    unfold lnE
    split
    · split
      · exact .inr (.inl rfl)
      · exact lnE_vals t m r _
    · exact .inr (.inr rfl)
theorem lnE_eq (t : Int) : ∀ (l : List Lin) (a : Int), (∀ x ∈ l, x.txt.length ≤ 20000) → lnE t 20000 a l = lnE t 60000 a l
  | [], a, _ => rfl
  | x :: r, a, h => by
    have h0 := h x (by simp)
    have h1 := lnE_eq t r (IntKind.wrap .i64 (a + x.len)) fun y hy => h y (by simp [-bind_some, hy])
    have h2 : ¬ (20000 : Int) < (x.txt.length : Int) := by omega
    have h3 : ¬ (60000 : Int) < (x.txt.length : Int) := by omega
    simp only [lnE, h1, h2, h3, if_false]
def itR (i : It) : Int :=
  if i.r = [] then evE i.e
  else if 32 < i.r.length then 3
  else if plB i.e = false then 2
  else if linesE i.e 20000 ≠ 0 ∧ linesE i.e 20000 ≠ 3 then linesE i.e 20000
  else if i.e.a5 ≠ 0 ∨ i.e.a6 ≠ 0 ∨ i.e.s7 ≠ [] ∨ i.e.s8 ≠ [] ∨ i.e.fs.length ≠ 0 ∨ (i.e.ls.any fun p => !(p.txt == [])) = true then 19 else 0
theorem itR_itE (i : It) : itR i = itE i := by
  unfold itR itE
  by_cases c0 : i.r = []
  · simp only [c0, if_true]
  by_cases c1 : 32 < i.r.length
  · simp only [c0, c1, if_true, if_false]
  by_cases c2 : plB i.e = false
  · simp only [c0, c1, c2, if_true, if_false]
  simp only [c0, c1, c2, if_false]
  unfold linesE
  by_cases d0 : i.e.ls.length = 0
  · simp [-bind_some, d0]
  by_cases d1 : 40 < i.e.ls.length
  · simp [-bind_some, d0, d1]
  simp only [d0, d1, if_false]
  have v20 := lnE_vals i.e.a3 20000 i.e.ls i.e.a2
  have v60 := lnE_vals i.e.a3 60000 i.e.ls i.e.a2
  by_cases hs : ∀ x ∈ i.e.ls, x.txt.length ≤ 20000
  · rw [lnE_eq i.e.a3 i.e.ls i.e.a2 hs]
    generalize lnE i.e.a3 60000 i.e.a2 i.e.ls = L at v60 ⊢
    rcases v60 with rfl | rfl | rfl <;> simp [-bind_some]
  · have hany : (i.e.ls.any fun p => !(p.txt == [])) = true := by
      rw [List.any_eq_true]
      refine Classical.byContradiction fun hn => hs fun x hx => ?_
      refine Classical.byContradiction fun h2 => hn ⟨x, hx, ?_⟩
      cases ht : x.txt with
      | nil => rw [ht] at h2; simp at h2
      | cons a b => rfl
    generalize (i.e.ls.any fun p => !(p.txt == [])) = bb at hany ⊢
    subst hany
    generalize lnE i.e.a3 60000 i.e.a2 i.e.ls = L at v60 ⊢
    generalize lnE i.e.a3 20000 i.e.a2 i.e.ls = M at v20 ⊢
    rcases v60 with rfl | rfl | rfl <;> rcases v20 with rfl | rfl | rfl <;> simp [-bind_some]
theorem l1004 (e : Ev) (h : Hp) {β : Type} {K : Out → Option β} {Q : β → Prop} (a x1 x2 : D)
    (k1 : (e.ls.any fun p => !(p.txt == [])) = false → ∀ x y z, Wp (K (.ext 0, [a, x, y, z], h)) Q) (k2 : (e.ls.any fun p => !(p.txt == [])) = true → ∀ x y z, Wp (K (.ret, [.int .i64 19, x, y, z], h)) Q) :
    Wp ((loopW (F1004_L0 (.fptr (evr e))) [a, .int .i64 0, x1, x2] h).bind K) Q := by
  have q4 : dFieldAddr tab ty31 4 (.fptr (evr e)) = some (.fptr [e.ld, .int .i64 e.a5, .int .i64 e.a6, .str e.s7, .str e.s8, e.fd]) := id rfl
  have hl := e.hll
  generalize hV : (e.ls.any fun p => !(p.txt == [])) = V at k1 k2
  refine Wp.loop (fun k ds g => g = h ∧ ∃ u f, ∃ i : Nat, ds = [a, .int .i64 (i : Int), u, f] ∧ k + i = e.ls.length ∧ ((e.ls.drop i).any fun p => !(p.txt == [])) = V)
      (fun x => x.2.2 = h ∧ ((x.1 = .ext 0 ∧ V = false ∧ ∃ p q r, x.2.1 = [a, p, q, r]) ∨ (x.1 = .ret ∧ V = true ∧ ∃ p q r, x.2.1 = [.int .i64 19, p, q, r]))) e.ls.length ⟨rfl, _, _, 0, rfl, rfl, hV⟩ ?_ ?_
  · rintro k ds g ⟨rfl, u, f, i, rfl, hk, hch⟩
    simp only [F1004_L0, nth_zero, nth_succ, bs, Option.bind_assoc, q4, ld28, lens28 e.hld, dBin_lss]
    refine Wp.dif ?_ ?_
    · intro h0
      have h0 : i < e.ls.length := by have : (i : Int) < e.ls.length := by simpa using h0
                                      omega
      obtain ⟨x, hx⟩ : ∃ x, e.ls[i]? = some x := ⟨_, List.getElem?_eq_getElem h0⟩
      have hw : IntKind.wrap .i64 ((i : Int) + 1) = ((i + 1 : Nat) : Int) := by rw [wrap_i64 (by omega) (by omega)]; omega
      rw [drop_cons hx] at hch
      have hix : dIndexAddr tab ty28 e.ld (.int .i64 (i : Int)) = some (.fptr (linr x)) := by rw [ixs28 e.hld]; simp [-bind_some, hx]
      have f1 : dFieldAddr tab ty78 2 (.fptr (linr x)) = some (.fptr [.str x.txt]) := id rfl
      have l1 : dLoad tab g ty9 (.fptr [.str x.txt]) = some (.str x.txt) := id rfl
      simp only [hix, f1, l1, bs, dBin_sneq]
      simp only [List.any_cons] at hch
      by_cases hf : (x.txt == []) = true
      · simp only [hf, Bool.not_true, Bool.false_or] at hch
        simp only [hf, Bool.not_true, dIf_bool, Bool.false_eq_true, if_false, dBin_add, bs, hw]
        exact .some (.inl ⟨rfl, k - 1, by omega, rfl, _, _, i + 1, rfl, by omega, hch⟩)
      · have hf : (x.txt == []) = false := by simpa using hf
        simp only [hf, Bool.not_false, Bool.true_or] at hch
        simp only [hf, Bool.not_false, dIf_bool, if_true]
        exact .some (.inr ⟨by simp, rfl, .inr ⟨rfl, hch.symm, _, _, _, rfl⟩⟩)
    · intro h0
      have h0 : e.ls.length ≤ i := by have : ¬ (i : Int) < e.ls.length := by simpa using h0
                                      omega
      rw [List.drop_of_length_le h0] at hch
      exact .some (.inr ⟨by simp, rfl, .inl ⟨rfl, hch.symm, _, _, _, rfl⟩⟩)
  · rintro ⟨x, ds, g⟩ ⟨h2, h3⟩
    simp only at h2 h3
    subst h2
    rcases h3 with ⟨rfl, hv, p, q, r, rfl⟩ | ⟨rfl, hv, p, q, r, rfl⟩
    · exact k1 hv _ _ _
    · exact k2 hv _ _ _
end Go.Proofs.YthaajlepgblimaaDoor
