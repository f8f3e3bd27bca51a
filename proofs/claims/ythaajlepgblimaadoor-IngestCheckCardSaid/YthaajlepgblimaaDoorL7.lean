/- Laws, on plain data, about functions that the statement reaches. -/
import Derived.Test.YthaajlepgblimaaDoorL6
set_option linter.unusedSimpArgs false
set_option linter.unusedVariables false
set_option linter.unnecessarySimpa false
set_option maxRecDepth 100000
namespace Go.Proofs.YthaajlepgblimaaDoor
open Go.Eng Go.Pi
open Option (bind_some)
theorem s1004g (i : It) (h : Hp) (hb : NmB i.e) : R fn1004 [.agg (itr i)] h = some (.int .i64 (itE i), h) := by
  rw [← itR_itE]
  suffices Wp (R fn1004 [.agg (itr i)] h) (fun p => p = (.int .i64 (itR i), h)) by
    obtain ⟨p, h1, rfl⟩ := this
    exact h1
  have hbx : boxN 10 (.agg (evr i.e)) = some (.fptr (evr i.e)) := boxN_agg 10 _ rfl
  have q5 : dFieldAddr tab ty31 5 (.fptr (evr i.e)) = some (.fptr [.int .i64 i.e.a5, .int .i64 i.e.a6, .str i.e.s7, .str i.e.s8, i.e.fd]) := id rfl
  have q6 : dFieldAddr tab ty31 6 (.fptr (evr i.e)) = some (.fptr [.int .i64 i.e.a6, .str i.e.s7, .str i.e.s8, i.e.fd]) := id rfl
  have q7 : dFieldAddr tab ty31 7 (.fptr (evr i.e)) = some (.fptr [.str i.e.s7, .str i.e.s8, i.e.fd]) := id rfl
  have q8 : dFieldAddr tab ty31 8 (.fptr (evr i.e)) = some (.fptr [.str i.e.s8, i.e.fd]) := id rfl
  have q9 : dFieldAddr tab ty31 9 (.fptr (evr i.e)) = some (.fptr [i.e.fd]) := id rfl
  rw [e1004]
  simp only [F1004, pBoxF_agg, bs, Option.bind_assoc, itF0, itF1, itL0, evL, hbx, dBin_seql, mkRes_one]
  unfold itR
  by_cases c0 : i.r = []
  · simp only [c0, beq_self_eq_true, dIf_bool, if_true, s1010g i.e h hb, bs]
    exact .some rfl
  have c0' : (i.r == []) = false := by simpa using c0
  simp only [c0, c0', dIf_bool, Bool.false_eq_true, if_false, len9, bs, dBin_gtr]
  by_cases c1 : 32 < i.r.length
  · have c1' : (i.r.length : Int) > 32 := by omega
    simp only [c1, c1', decide_true, if_true]
    exact .some rfl
  have c1' : ¬ (i.r.length : Int) > 32 := by omega
  simp only [c1, c1', decide_false, Bool.false_eq_true, if_false, s1011g, bs, dBin_neq, ne_eq]
  by_cases c2 : plB i.e = true
  case neg =>
    have c2' : plB i.e = false := by simpa using c2
    simp only [c2', Bool.false_eq_true, if_false, show ¬ (2 : Int) = 0 by omega, not_false_eq_true, decide_true, dIf_bool, if_true]
    exact .some rfl
  simp only [c2, if_true, not_true, decide_false, dIf_bool, Bool.false_eq_true, Bool.true_eq_false, if_false, s1012g, bs, dBin_neq, ne_eq]
  generalize linesE i.e 20000 = L
  by_cases c3 : L ≠ 0 ∧ L ≠ 3
  · obtain ⟨c4, c5⟩ := c3
    simp only [ne_eq, c4, c5, not_false_eq_true, decide_true, gd_bool, if_true, bs, dPick_bool, dIf_bool, and_self, dBin_neq]
    exact .some rfl
  have c3' : decide (¬ L = 0) = true → decide (¬ L = 3) = false := by
    intro q
    have q : ¬ L = 0 := by simpa using q
    by_cases h3 : L = 3
    · simp [-bind_some, h3]
    · exact absurd ⟨q, h3⟩ c3
  rw [if_neg (by simpa [-bind_some, ne_eq] using c3)]
  have step : ∀ (K : D → Option (D × Hp)), ((gd (.bool (decide (¬ L = 0))) true (some (.int .i64 L))).bind fun t29 => (gd (.bool (decide (¬ L = 0))) true (dBin tab .neq ty49 t29 (.int .i64 3))).bind fun t30 => (dPick (.bool (decide (¬ L = 0))) t30 (.bool false)).bind K) = K (.bool false) := by
    intro K
    cases hq : decide (¬ L = 0) with
    | false => simp only [gd_bool, Bool.false_eq_true, if_false, reduceCtorEq, bs, dPick_bool]
    | true => simp only [gd_bool, if_true, bs, dBin_neq, ne_eq, c3' hq, dPick_bool]
  rw [step]
  simp only [dIf_bool, Bool.false_eq_true, if_false, q5, q6, q7, q8, q9, ld3, ld9, ld29, bs, dBin_neq, dBin_sneq, lens29 i.e.hfd, Option.bind_assoc, ne_eq]
  have hfl : (i.e.fs.length : Int) = 0 ↔ i.e.fs.length = 0 := by omega
  by_cases d1n : ¬ i.e.a5 = 0
  · simp only [d1n, not_false_eq_true, true_or, decide_true, gd_bool, gd_und, reduceCtorEq, if_true, Bool.true_eq_false, if_false, bs, dPick_bool, dIf_bool]
    exact .some rfl
  have d1 : i.e.a5 = 0 := Decidable.not_not.1 d1n
  by_cases d2n : ¬ i.e.a6 = 0
  · simp only [d1, d2n, not_true, not_false_eq_true, true_or, false_or, decide_true, decide_false, gd_bool, gd_und, q6, ld3, dBin_neq, ne_eq, reduceCtorEq, if_true, Bool.true_eq_false, Bool.false_eq_true, if_false, bs, dPick_bool, dIf_bool]
    exact .some rfl
  have d2 : i.e.a6 = 0 := Decidable.not_not.1 d2n
  by_cases d3n : ¬ i.e.s7 = []
  · have d3b : (i.e.s7 == []) = false := by simpa using d3n
    simp only [d1, d2, d3n, d3b, not_true, not_false_eq_true, true_or, false_or, decide_true, decide_false, gd_bool, gd_und, q6, q7, ld3, ld9, dBin_neq, dBin_sneq, ne_eq, Bool.not_false, reduceCtorEq, if_true, Bool.true_eq_false, Bool.false_eq_true, if_false, bs, dPick_bool, dIf_bool]
    exact .some rfl
  have d3 : i.e.s7 = [] := Decidable.not_not.1 d3n
  by_cases d4n : ¬ i.e.s8 = []
  · have d4b : (i.e.s8 == []) = false := by simpa using d4n
    simp only [d1, d2, d3, d4n, d4b, not_true, not_false_eq_true, true_or, false_or, decide_true, decide_false, gd_bool, gd_und, q6, q7, q8, ld3, ld9, dBin_neq, dBin_sneq, ne_eq, beq_self_eq_true, Bool.not_true, Bool.not_false, reduceCtorEq, if_true, Bool.true_eq_false, Bool.false_eq_true, if_false, bs, dPick_bool, dIf_bool]
    exact .some rfl
  have d4 : i.e.s8 = [] := Decidable.not_not.1 d4n
  by_cases d5n : ¬ i.e.fs.length = 0
  · simp only [d1, d2, d3, d4, d5n, hfl, not_true, not_false_eq_true, true_or, false_or, decide_true, decide_false, gd_bool, gd_und, q6, q7, q8, q9, ld3, ld9, ld29, lens29 i.e.hfd, dBin_neq, dBin_sneq, ne_eq, beq_self_eq_true, Bool.not_true, Bool.not_false, reduceCtorEq, if_true, Bool.true_eq_false, Bool.false_eq_true, if_false, bs, dPick_bool, dIf_bool]
    exact .some rfl
  have d5 : i.e.fs.length = 0 := Decidable.not_not.1 d5n
  simp only [d1, d2, d3, d4, d5, hfl, not_true, false_or, decide_false, gd_bool, gd_und, q6, q7, q8, q9, ld3, ld9, ld29, lens29 i.e.hfd, dBin_neq, dBin_sneq, ne_eq, beq_self_eq_true, Bool.not_true, reduceCtorEq, if_true, Bool.false_eq_true, if_false, bs, dPick_bool, dIf_bool]
  refine l1004 i.e h _ _ _ (fun hv x y z => ?_) (fun hv x y z => ?_)
  · simp only [unblk_self, toEnd_nrm, bs, mkRes_one, hv, Bool.false_eq_true, if_false]
    exact .some rfl
  · simp only [unblk_ret, toEnd_ret, exEnd_ret, nth_zero, bs, mkRes_one, hv, if_true]
    exact .some rfl
theorem sp_lvl {b : Bool} {x y : Option Out} {f : Out → List D} {P : Hp → Prop} (hx : b = true → Wp x fun r => r.1 = .nrm ∧ P r.2.2) (hy : b = false → Wp y fun r => r.1 = .nrm ∧ P r.2.2) :
    Wp ((dIf (.bool b) x y).bind fun r => some (r.1, f r, r.2.2)) (fun r => r.1 = .nrm ∧ P r.2.2) := by
  refine Wp.join hx hy fun a ha => ?_
  exact .some ha
def chkB (hs : Int) : List It → Int
  | [] => 0
  | i :: r => if itE i ≠ 0 then itE i else if i.e.a0 ≠ hs then 24 else if i.r = [42] then 6 else chkB hs r
def chkBat (hs : Int) (its : List It) : Int := if 40 < its.length then 4 else chkB hs its
theorem s1094w (hs nu : Int) (its : List It) (d : D) (h : Hp) (hd : RdI h its d) : R fn1094 [.agg (batx hs nu d)] h = some (.int .i64 (chkBat hs its), h) := by
  suffices Wp (R fn1094 [.agg (batx hs nu d)] h) (fun p => p = (.int .i64 (chkBat hs its), h)) by
    obtain ⟨p, h1, rfl⟩ := this
    exact h1
  rw [e1094]
  simp only [F1094, pBoxF_agg, bx2, ld113, rdI_len hd, bs, Option.bind_assoc, dBin_gtr]
  by_cases h40 : 40 < its.length
  · have hlen : (its.length : Int) > 40 := by omega
    simp only [hlen, decide_true, dIf_bool, if_true, mkRes_one, chkBat, h40]
    exact .some rfl
  have hlen : ¬ (its.length : Int) > 40 := by omega
  have hB : chkBat hs its = chkB hs its := by simp only [chkBat, h40, if_false]
  rw [hB]
  simp only [hlen, decide_false, dIf_bool, Bool.false_eq_true, if_false]
  generalize hV : chkB hs its = V
  refine Wp.loop (fun k ds g => g = h ∧ ∃ a1 a2 a3 a4 a5 a6 a7, ∃ n : Nat, ds = [a1, a2, a3, .int .i64 n, a4, a5, a6, a7] ∧ k + n = its.length ∧ chkB hs (its.drop n) = V)
    (fun r => r.2.2 = h ∧ ((r.1 = .ext 0 ∧ V = 0) ∨ (r.1 = .ret ∧ nth 0 r.2.1 = .int .i64 V))) its.length ⟨rfl, _, _, _, _, _, _, _, 0, rfl, rfl, hV⟩ ?_ ?_
  · rintro k ds g ⟨rfl, a1, a2, a3, a4, a5, a6, a7, n, rfl, hk, hch⟩
    simp only [F1094_L0, nth_zero, nth_succ, bs, Option.bind_assoc, dBin_lss]
    refine Wp.dif ?_ ?_
    · intro h0
      have h0 : n < its.length := by have : (n : Int) < its.length := by simpa using h0
                                     omega
      obtain ⟨i, hi⟩ : ∃ i, its[n]? = some i := ⟨_, List.getElem?_eq_getElem h0⟩
      have hw : IntKind.wrap .i64 ((n : Int) + 1) = ((n + 1 : Nat) : Int) := by
        rw [wrap_i64 (by omega) (by omega)]; omega
      obtain ⟨q, hii, hq⟩ := rdI_ix hd n i hi
      have hck := s1042w i g
      have q0 : dFieldAddr tab ty31 0 (.fptr (evr i.e)) = some (.fptr (evr i.e)) := id rfl
      have q1 : dLoad tab g ty3 (.fptr (evr i.e)) = some (.int .i64 i.e.a0) := id rfl
      rw [drop_cons hi] at hch
      unfold chkB at hch
      simp only [hii, hq, ldIt, boxIt, hck, bs, dBin_neq]
      by_cases c1 : itE i = 0
      case neg =>
        rw [if_pos c1] at hch
        simp only [c1, ne_eq, not_false_eq_true, decide_true, dIf_bool, if_true]
        exact .some (.inr ⟨by simp, rfl, .inr ⟨rfl, by rw [← hch]; rfl⟩⟩)
      rw [if_neg (fun hh => hh c1)] at hch
      simp only [c1, ne_eq, not_true, decide_false, dIf_bool, Bool.false_eq_true, if_false, itF1, q0, q1, bx0, bxl, bs, dBin_neq]
      by_cases c2 : i.e.a0 = hs
      case neg =>
        rw [if_pos c2] at hch
        simp only [c2, not_false_eq_true, decide_true, dIf_bool, if_true]
        exact .some (.inr ⟨by simp, rfl, .inr ⟨rfl, by rw [← hch]; rfl⟩⟩)
      rw [if_neg (fun hh => hh c2)] at hch
      simp only [c2, not_true, decide_false, dIf_bool, Bool.false_eq_true, if_false, itF0, itL0, dBin_seql, bs]
      by_cases c3 : i.r = [42]
      · rw [if_pos c3] at hch
        have c3' : (i.r == ([42] : Str)) = true := by simpa using c3
        simp only [c3', dIf_bool, if_true]
        exact .some (.inr ⟨by simp, rfl, .inr ⟨rfl, by rw [← hch]; rfl⟩⟩)
      · rw [if_neg c3] at hch
        have c3' : (i.r == ([42] : Str)) = false := by simpa using c3
        simp only [c3', dIf_bool, Bool.false_eq_true, if_false, dBin_add, hw, bs]
        exact .some (.inl ⟨rfl, k - 1, by omega, rfl, _, _, _, _, _, _, _, n + 1, rfl, by omega, hch⟩)
    · intro h0
      have h0 : its.length ≤ n := by have : ¬ (n : Int) < its.length := by simpa using h0
                                     omega
      rw [List.drop_of_length_le h0] at hch
      exact .some (.inr ⟨by simp, rfl, .inl ⟨rfl, hch.symm⟩⟩)
  · rintro ⟨ex, ds, g⟩ ⟨q2, q1⟩
    simp only at q1 q2
    subst q2
    rcases q1 with ⟨rfl, rfl⟩ | ⟨rfl, hv⟩
    · simp only [unblk_self, toEnd_nrm, bs, mkRes_one]
      exact .some rfl
    · simp only [unblk_ret, toEnd_ret, exEnd_ret, nth_zero, bs, hv, mkRes_one]
      exact .some rfl
theorem s1113w (hs nu : Int) (its : List It) (d : D) (h : Hp) (hd : RdI h its d) (hnm : ∀ i ∈ its, NmB i.e) : R fn1113 [.agg (batx hs nu d)] h = some (.int .i64 (chkBat hs its), h) := by
  suffices Wp (R fn1113 [.agg (batx hs nu d)] h) (fun p => p = (.int .i64 (chkBat hs its), h)) by
    obtain ⟨p, h1, rfl⟩ := this
    exact h1
  rw [e1113]
  simp only [F1113, pBoxF_agg, bx2, ld113, rdI_len hd, bs, Option.bind_assoc, dBin_gtr]
  by_cases h40 : 40 < its.length
  · have hlen : (its.length : Int) > 40 := by omega
    simp only [hlen, decide_true, dIf_bool, if_true, mkRes_one, chkBat, h40]
    exact .some rfl
  have hlen : ¬ (its.length : Int) > 40 := by omega
  have hB : chkBat hs its = chkB hs its := by simp only [chkBat, h40, if_false]
  rw [hB]
  simp only [hlen, decide_false, dIf_bool, Bool.false_eq_true, if_false]
  generalize hV : chkB hs its = V
  refine Wp.loop (fun k ds g => g = h ∧ ∃ a1 a3 a4 a5 a6 a7 a8, ∃ n : Nat, ds = [a1, .int .i64 n, a3, a4, a5, a6, a7, a8] ∧ k + n = its.length ∧ chkB hs (its.drop n) = V)
    (fun r => r.2.2 = h ∧ ((r.1 = .ext 0 ∧ V = 0) ∨ (r.1 = .ret ∧ nth 0 r.2.1 = .int .i64 V))) its.length ⟨rfl, _, _, _, _, _, _, _, 0, rfl, rfl, hV⟩ ?_ ?_
  · rintro k ds g ⟨rfl, a1, a3, a4, a5, a6, a7, a8, n, rfl, hk, hch⟩
    simp only [F1113_L0, nth_zero, nth_succ, bs, Option.bind_assoc, bx2, ld113, rdI_len hd, dBin_lss]
    refine Wp.dif ?_ ?_
    · intro h0
      have h0 : n < its.length := by have : (n : Int) < its.length := by simpa using h0
                                     omega
      obtain ⟨i, hi⟩ : ∃ i, its[n]? = some i := ⟨_, List.getElem?_eq_getElem h0⟩
      have hw : IntKind.wrap .i64 ((n : Int) + 1) = ((n + 1 : Nat) : Int) := by
        rw [wrap_i64 (by omega) (by omega)]; omega
      obtain ⟨q, hii, hq⟩ := rdI_ix hd n i hi
      have hck := s1004g i g (hnm i (List.mem_of_getElem? hi))
      have q0 : dFieldAddr tab ty31 0 (.fptr (evr i.e)) = some (.fptr (evr i.e)) := id rfl
      have q1 : dLoad tab g ty3 (.fptr (evr i.e)) = some (.int .i64 i.e.a0) := id rfl
      rw [drop_cons hi] at hch
      unfold chkB at hch
      simp only [hii, hq, ldIt, boxIt, hck, bs, dBin_neq]
      by_cases c1 : itE i = 0
      case neg =>
        rw [if_pos c1] at hch
        simp only [c1, ne_eq, not_false_eq_true, decide_true, dIf_bool, if_true]
        exact .some (.inr ⟨by simp, rfl, .inr ⟨rfl, by rw [← hch]; rfl⟩⟩)
      rw [if_neg (fun hh => hh c1)] at hch
      simp only [c1, ne_eq, not_true, decide_false, dIf_bool, Bool.false_eq_true, if_false, itF1, q0, q1, bx0, bxl, bs, dBin_neq]
      by_cases c2 : i.e.a0 = hs
      case neg =>
        rw [if_pos c2] at hch
        simp only [c2, not_false_eq_true, decide_true, dIf_bool, if_true]
        exact .some (.inr ⟨by simp, rfl, .inr ⟨rfl, by rw [← hch]; rfl⟩⟩)
      rw [if_neg (fun hh => hh c2)] at hch
      simp only [c2, not_true, decide_false, dIf_bool, Bool.false_eq_true, if_false, itF0, itL0, dBin_seql, bs]
      by_cases c3 : i.r = [42]
      · rw [if_pos c3] at hch
        have c3' : (i.r == ([42] : Str)) = true := by simpa using c3
        simp only [c3', dIf_bool, if_true]
        exact .some (.inr ⟨by simp, rfl, .inr ⟨rfl, by rw [← hch]; rfl⟩⟩)
      · rw [if_neg c3] at hch
        have c3' : (i.r == ([42] : Str)) = false := by simpa using c3
        simp only [c3', dIf_bool, Bool.false_eq_true, if_false, dBin_add, hw, bs]
        exact .some (.inl ⟨rfl, k - 1, by omega, rfl, _, _, _, _, _, _, _, n + 1, rfl, by omega, hch⟩)
    · intro h0
      have h0 : its.length ≤ n := by have : ¬ (n : Int) < its.length := by simpa using h0
                                     omega
      rw [List.drop_of_length_le h0] at hch
      exact .some (.inr ⟨by simp, rfl, .inl ⟨rfl, hch.symm⟩⟩)
  · rintro ⟨ex, ds, g⟩ ⟨q2, q1⟩
    simp only at q1 q2
    subst q2
    rcases q1 with ⟨rfl, rfl⟩ | ⟨rfl, hv⟩
    · simp only [unblk_self, toEnd_nrm, bs, mkRes_one]
      exact .some rfl
    · simp only [unblk_ret, toEnd_ret, exEnd_ret, nth_zero, bs, hv, mkRes_one]
      exact .some rfl
theorem bat_x (b : Bat) : batr b = batx b.hs b.nu b.d := rfl
theorem s1208 (b : Bat) (h : Hp) (hl : b.its.length ≤ 9223372036854775807) : ∃ v : Bool, R fn1208 [.agg (batr b)] h = some (.bool v, h) := by
  suffices Wp (R fn1208 [.agg (batr b)] h) (fun p => p.2 = h ∧ ∃ v : Bool, p.1 = .bool v) by
    obtain ⟨⟨x, h'⟩, h1, rfl, v, rfl⟩ := this
    exact ⟨v, h1⟩
  rw [e1208, bat_x]
  simp only [F1208, pBoxF_agg, bx2, ld113, lens113 b.hd, bs, Option.bind_assoc]
  refine Wp.loop (fun k ds g => g = h ∧ ∃ a c, ∃ n : Nat, ds = [.int .i64 a, .int .i64 n, c] ∧ n ≤ b.its.length ∧ k + n = b.its.length) (fun r => r.1 = .ext 0 ∧ r.2.2 = h ∧ ∃ a c e, r.2.1 = [.int .i64 a, c, e]) b.its.length ⟨rfl, _, _, 0, rfl, by omega, rfl⟩ ?_ ?_
  · rintro k ds g ⟨rfl, a, c, n, rfl, hn, hk⟩
    simp only [F1208_L0, nth_zero, nth_succ, bs, Option.bind_assoc, bx2, ld113, lens113 b.hd, dBin_lss]
    by_cases h0 : (n : Int) < (b.its.length : Int)
    case neg =>
      simp only [h0, decide_false, gd_bool, reduceCtorEq, Bool.false_eq_true, if_false, bs, dPick_bool, dIf_bool]
      exact .some (.inr ⟨by simp, rfl, rfl, _, _, _, rfl⟩)
    by_cases h1 : a ≤ 300
    case neg =>
      simp only [h0, h1, decide_true, decide_false, gd_bool, if_true, bs, dBin_leq, dPick_bool, dIf_bool, Bool.false_eq_true, if_false]
      exact .some (.inr ⟨by simp, rfl, rfl, _, _, _, rfl⟩)
    obtain ⟨i, hi⟩ : ∃ i, b.its[n]? = some i := ⟨_, List.getElem?_eq_getElem (by omega)⟩
    have hw : IntKind.wrap .i64 ((n : Int) + 1) = ((n + 1 : Nat) : Int) := by rw [wrap_i64 (by omega) (by omega)]; omega
    have hix : dIndexAddr tab ty113 b.d (.int .i64 n) = some (.fptr (itr i)) := by rw [ixs113 b.hd]; simp [-bind_some, hi]
    have q4 : dFieldAddr tab ty31 4 (.fptr (evr i.e)) = some (.fptr [i.e.ld, .int .i64 i.e.a5, .int .i64 i.e.a6, .str i.e.s7, .str i.e.s8, i.e.fd]) := id rfl
    have q9 : dFieldAddr tab ty31 9 (.fptr (evr i.e)) = some (.fptr [i.e.fd]) := id rfl
    have k9 : dLoad tab g ty29 (.fptr [i.e.fd]) = some i.e.fd := id rfl
    simp only [h0, h1, decide_true, gd_bool, if_true, bs, dBin_leq, dPick_bool, dIf_bool, hix, itF1, q4, q9, ld28, k9, lens28 i.e.hld, lens29 i.e.hfd, dBin_add, hw]
    exact .some (.inl ⟨rfl, k - 1, by omega, rfl, _, _, n + 1, rfl, by omega, by omega⟩)
  · rintro ⟨ex, ds, g⟩ ⟨rfl, q2, a, c, e, rfl⟩
    simp only at q2
    subst q2
    simp only [unblk_self, toEnd_nrm, bs, nth_zero, nth_succ, dBin_leq, mkRes_one]
    exact .some ⟨rfl, _, rfl⟩
structure Ck (g : Hp) (o q : Nat) (hs nu : Int) (its : List It) (x : D) : Prop where
  oq : o < q
  cd : CD g o
  row : g[q]? = some (.row ty1064 3 [batx hs nu x])
  ow : Own g (q + 1) ty74 11 (its.map itr) x
  nm : ∀ i ∈ its, NmB i.e
  ln : its.length ≤ 41
theorem Ck.draw {g g' : Hp} {o q : Nat} {hs nu : Int} {its : List It} {x : D} (C : Ck g o q hs nu its x) (c : CD g' o) (s : Same o g g') : Ck g' o q hs nu its x := by
  have := C.oq
  exact ⟨C.oq, c, by rw [s.2 _ (by omega)]; exact C.row, C.ow.keep fun r hr _ => s.2 r (by omega), C.nm, C.ln⟩
theorem Ck.ld2 {g : Hp} {o q : Nat} {hs nu : Int} {its : List It} {x : D} (C : Ck g o q hs nu its x) : dLoad tab g ty113 (.ptr q 0 (0 + 2)) = some x := by rw [ldp113, row_of C.row]; rfl
theorem Ck.ld0 {g : Hp} {o q : Nat} {hs nu : Int} {its : List It} {x : D} (C : Ck g o q hs nu its x) : dLoad tab g ty3 (.ptr q 0 (0 + 0)) = some (.int .i64 hs) := by rw [ldp3, row_of C.row]; rfl
theorem Ck.ldb {g : Hp} {o q : Nat} {hs nu : Int} {its : List It} {x : D} (C : Ck g o q hs nu its x) : dLoad tab g ty1064 (.ptr q 0 0) = some (.agg (batx hs nu x)) := by rw [ldp1064, row_of C.row]; rfl
theorem bx_set (hs nu : Int) (x : D) (k : Nat) (v : D) (hv : v.one = true) (hk : k < 3) : ([batx hs nu x].set 0 (spl (batx hs nu x) (0 + k) (cells1 v))) = [(batx hs nu x).set k v] := by
  rw [Nat.zero_add, set_spl _ _ _ hv (by simp [-bind_some, batx]; omega)]; rfl
theorem Ck.iset {g g' : Hp} {o q : Nat} {hs nu : Int} {its : List It} {x : D} (C : Ck g o q hs nu its x) {ob n : Nat} (hob : q + 1 ≤ ob) (hx : x = .msl 11 ob 0 its.length) (s : Same ob g g') (j : It) (hg : g'[ob]? = some (.row ty74 11 ((its.set n j).map itr))) (hj : NmB j.e) : Ck g' o q hs nu (its.set n j) x := by
  have := C.oq
  exact ⟨C.oq, C.cd.keep (s.2 _ (by omega)), by rw [s.2 _ (by omega)]; exact C.row, .inr ⟨ob, hob, by rw [hx]; simp [-bind_some], hg⟩, fun i hi => by
    rcases List.mem_or_eq_of_mem_set hi with hi | rfl
    · exact C.nm i hi
    · exact hj, by simp; exact C.ln⟩
theorem itok_nm {hst fil fr : Int} {i : It} (h : ItOK hst fil fr i) : NmB i.e := by
  intro p hp
  by_cases hr : i.r = []
  · obtain ⟨_, _, _, _, _, _, hf, _⟩ := h.ev hr
    have hm : p.1 ∈ lt98_9 := hf.1.subset (List.mem_map.2 ⟨p, hp, rfl⟩)
    have := (show ∀ s ∈ lt98_9, s.length ≤ 1000 by decide) _ hm
    omega
  · rw [(h.sk hr).2.2.2.2.2.1] at hp; cases hp
theorem bit_nm {hst : Int} {i : It} (h : BIt hst i) : NmB i.e := by
  intro p hp
  rcases h.good with ⟨_, hg⟩ | hg
  · have := (hg.fn p hp).2
    omega
  · rw [hg.fs] at hp; cases hp
theorem law1206 (B0 : Bat) (zs : List Int) (d : D) (hB0 : B0.its.length ≤ 9223372036854775807) (hnm : ∀ i ∈ B0.its, NmB i.e) (hd : Given .u8 zs d) (hz : ∀ z ∈ zs, 0 ≤ z ∧ z < 256) : ∃ h', R fn1206 [.agg (batr B0), d] [] = some (.bool true, h') := by
  suffices Wp (R fn1206 [.agg (batr B0), d] []) (fun p => p.1 = .bool true) by
    obtain ⟨⟨x, h'⟩, h1, rfl⟩ := this
    exact ⟨h', h1⟩
  have hsc : ∀ g' : Hp, scope [] g' (.bool true) = some (.bool true, []) := fun g' => scope_eq (by simp) (.bool _) (by simp) (fun q hq => by cases hq)
  obtain ⟨v, hv⟩ := s1208 B0 [] hB0
  have hlb : ∀ g : Hp, dLoad tab g ty1064 (.fptr (batr B0)) = some (.agg (batr B0)) := fun g => id rfl
  rw [e1206]
  simp only [F1206, pBoxF_agg, bs, s1001, dUn_not, Bool.not_true, gd_bool, gdW_bool, if_true, hlb, hv, dPick_bool, Bool.false_eq_true, if_false, Option.bind_assoc]
  cases v
  · simp only [Bool.not_false, dIf_bool, if_true, mkRes_one, hsc]
    exact .some rfl
  simp only [Bool.not_true, dIf_bool, Bool.false_eq_true, if_false]
  obtain ⟨h0, e0, c0, hl0⟩ := d44 zs d 300 [] hd (by omega) (by omega) hz
  have o0 : ([] : Hp).length = 0 := rfl
  rw [o0] at e0 c0
  refine Wp.step e0 ?_
  simp only [bs]
  obtain ⟨w, h1, e1, c1, s1, w0, w1⟩ := next_b c0 2 (by omega) (by omega)
  have hw1 : IntKind.wrap .i64 (1 + w) = 1 + w := wrap_i64 (by omega) (by omega)
  simp only [e1, bs, dBin_add, hw1]
  obtain ⟨dl, h2, e2, c2, s2, A, hA, hA1, hA2, hAb⟩ := d1088 c1 (1 + w) 4 (by omega) (by omega) (by omega) (by omega)
  simp only [e2, bs, lens1059 hA]
  obtain ⟨u, H, e3, c3, s3, u0, u1⟩ := next_b c2 (A.length : Int) (by omega) (by omega)
  obtain ⟨b, hb⟩ : ∃ b, A[u.toNat]? = some b := ⟨_, List.getElem?_eq_getElem (by omega)⟩
  have hix : dIndexAddr tab ty1059 dl (.int .i64 u) = some (.fptr (batr b)) := by rw [ixs1059 hA, if_pos u0, hb]; rfl
  have hlb2 : ∀ g : Hp, dLoad tab g ty1064 (.fptr (batr b)) = some (.agg (batr b)) := fun g => id rfl
  have hbok := hAb b (List.mem_of_getElem? hb)
  simp only [e3, bs, hix, hlb2]
  clear e0 e1 e2 e3 c0 c1 c2 s1 s2 s3 hix hlb2 hA hA1 hA2 hAb hb hv hw1 w0 u0 u1
  have a1 : (dNew H ty1064 3 [[.int .i64 0, .int .i64 0, .nils]])[H.length]? = some (.row ty1064 3 [[.int .i64 0, .int .i64 0, .nils]]) := dNew_get _ _ _ _
  have k1 : ∀ q, q < H.length → (dNew H ty1064 3 [[.int .i64 0, .int .i64 0, .nils]])[q]? = H[q]? := fun q hq => dNew_old _ _ _ _ hq
  have l1q : (dNew H ty1064 3 [[.int .i64 0, .int .i64 0, .nils]]).length = H.length + 1 := by simp [-bind_some, dNew]
  generalize dNew H ty1064 3 [[.int .i64 0, .int .i64 0, .nils]] = g0 at *
  have hbo : (D.agg (batr b)).okv = true := by
    have := slof_one b.hd
    clear hlb
    rw [bat_x]
    generalize b.d = x at this
    cases x <;> first | rfl | (simp [-bind_some, D.one] at this)
  refine wst1064 (kk := 0) (off := 0) (v := .agg (batr b)) a1 (by rfl) (by rfl) (by simp) hbo fun g1 p1 s1 => ?_
  replace p1 : g1[H.length]? = some (.row ty1064 3 [batx b.hs b.nu b.d]) := p1
  have l2q : g1.length = H.length + 1 := by rw [s1.1, l1q]
  have holt := c3.lt
  have cg : CD g1 0 := c3.keep (by rw [s1.2 _ (by omega), k1 _ (by omega)])
  have ldb1 : dLoad tab g1 ty1064 (.ptr H.length 0 0) = some (.agg (batr b)) := by rw [ldp1064, row_of p1]; rfl
  have r1 := s1094w B0.hs B0.nu B0.its B0.d g1 (.inl B0.hd)
  have r2 := s1113w B0.hs B0.nu B0.its B0.d g1 (.inl B0.hd) hnm
  have r3 := s1094 (1 + w) b g1 hbok
  rw [← bat_x] at r1 r2
  have ld2 : dLoad tab g1 ty113 (.ptr H.length 0 (0 + 2)) = some b.d := by rw [ldp113, row_of p1]; rfl
  simp only [bs, hlb, r1, r2, dBin_neq, ne_eq, not_true, decide_false, gd_bool, gdW_bool, if_true, ldb1, r3, dPick_bool, Bool.false_eq_true, if_false, chk_true, dIf_bool, fap1064_2, fap1064_0, ld2]
  have hn3 := hbok.n3
  refine wap113 (n0 := H.length + 1) (rows := []) (by omega) (.nils _ _ _ _) (slof_rows _ b.hd) (by simp only [List.length_map, List.length_nil]; omega) fun x4 g4 o4 l4 k4 _ _ => ?_
  rw [List.nil_append] at o4
  try simp only [bs]
  refine wst113 (kk := 0) (off := 0 + 2) (row := batx b.hs b.nu b.d) (v := x4) (by rw [k4 _ (by omega)]; exact p1) (by rfl) (by rw [(one_cells (own_one o4)).1]; rfl) (by simp [-bind_some, batx]) (one_cells (own_one o4)).2 fun g5 p5 s5 => ?_
  rw [bx_set _ _ _ _ _ (own_one o4) (by omega)] at p5
  have C0 : Ck g5 0 H.length b.hs b.nu b.its x4 := ⟨holt, cg.keep (by rw [s5.2 _ (by omega), k4 _ (by omega)]), p5, o4.keep fun q hq _ => s5.2 q (by omega), fun i hi => bit_nm (hbok.it i hi), by omega⟩
  generalize b.hs = hs at *
  generalize b.nu = nu at *
  have hlen3 : b.its.length ≤ 41 := by omega
  generalize b.its = its at *
  clear p5 s5 o4 l4 k4 ld2 r3 r2 r1 ldb1 cg l2q p1 s1 hbo a1 k1 l1q c3
  obtain ⟨v, g6, e6, c6, s6, v0, v1⟩ := next_b C0.cd 5 (by omega) (by omega)
  replace C0 := C0.draw c6 s6
  simp only [bs, e6, dBin_eql]
  clear e6 s6 c6
  have hlen : dLenT tab ty113 x4 = some (.int .i64 (its.length : Int)) := by rw [leno113 C0.ow, List.length_map]
  have Z : ∀ L : List D, Wp (some ((.nrm, L, g6) : Out)) (fun r => r.1 = .nrm ∧ ∃ hs nu its x, Ck r.2.2 0 H.length hs nu its x) := fun L => .some ⟨rfl, _, _, _, _, C0⟩
  have gx : 0 < its.length → ∀ n : Int, 0 ≤ n → n < its.length → ∃ ob i, H.length + 1 ≤ ob ∧ x4 = .msl 11 ob 0 its.length ∧ its[n.toNat]? = some i ∧ dIndexAddr tab ty113 x4 (.int .i64 n) = some (.ptr ob n.toNat 0) ∧ ∀ g', CD g' 0 → Same 0 g6 g' → g'[ob]? = some (.row ty74 11 (its.map itr)) := fun hp n n0 n1 => by
    obtain ⟨ob, hob, hx, hg⟩ := own_ix C0.ow (i := 0) (by simpa using hp)
    rw [List.length_map] at hx
    exact ⟨ob, _, hob, hx, List.getElem?_eq_getElem (by omega), by rw [hx, ixm113, if_pos ⟨n0, n1⟩]; simp [-bind_some], fun g' c s => by rw [s.2 _ (by omega)]; exact hg⟩
  refine Wp.bind (P := fun r => r.1 = .nrm ∧ ∃ hs nu its x, Ck r.2.2 0 H.length hs nu its x) ?_ ?_
  · refine Wp.dif (fun _ => ?_) fun _ => ?_
    · simp only [C0.ld0, bs, dBin_add]
      refine wst3 (kk := 0) (off := 0 + 0) (row := batx hs nu x4) C0.row (by rfl) (by rfl) (by simp [-bind_some, batx]) (by rfl) fun g7 p7 s7 => ?_
      rw [bx_set _ _ _ _ _ rfl (by omega)] at p7
      exact .some ⟨rfl, _, nu, its, x4, holt, C0.cd.keep (s7.2 _ (by omega)), p7, C0.ow.keep fun q hq _ => s7.2 q (by omega), C0.nm, C0.ln⟩
    refine sp_lvl (P := fun g => ∃ hs nu its x, Ck g 0 H.length hs nu its x) (fun _ => ?_) fun _ => ?_
    · try simp only [Option.bind_assoc]
      refine Wp.loop (fun k ds g => ∃ a its x, ds = [a] ∧ Ck g 0 H.length hs nu its x ∧ k + its.length = 41)
        (fun r => r.1 = .ext 1 ∧ ∃ hs nu its x, Ck r.2.2 0 H.length hs nu its x) (41 - its.length) ⟨_, _, _, rfl, C0, by omega⟩ ?_ ?_
      · rintro k ds g ⟨a, its, x, rfl, C, hk⟩
        have hlx : dLenT tab ty113 x = some (.int .i64 (its.length : Int)) := by rw [leno113 C.ow, List.length_map]
        simp only [F1206_L0, nth_zero, nth_succ, bs, Option.bind_assoc, fap1064_2, fap1064_0, C.ld2, hlx, dBin_leq]
        refine Wp.dif (fun hh => ?_) fun _ => ?_
        · have hh : its.length ≤ 40 := by have : (its.length : Int) ≤ 40 := by simpa using hh
                                          omega
          obtain ⟨i, g8, e8, c8, s8, hi⟩ := d84 C.cd hs 5 0 (by omega) (by omega)
          have C1 := C.draw c8 s8
          have hbs : pLitF tab ty113 1 [0] [.agg (itr i)] = some (.sl 11 true [itr i]) := id rfl
          simp only [C.ld0, e8, bs, hbs]
          have hqlt := (List.getElem?_eq_some_iff.1 C1.row).1
          refine wap113 (n0 := H.length + 1) (by omega) C1.ow (rowsOf_sl _ _ _ _) (by simp only [List.length_map, List.length_cons, List.length_nil]; omega) fun x9 g9 o9 l9 k9 k9' i9 => ?_
          have ho9 : its.map itr ++ [itr i] = (its ++ [i]).map itr := by rw [List.map_append]; rfl
          rw [ho9] at o9
          rw [chk_true _ _ C1.ld2]
          refine wst113 (kk := 0) (off := 0 + 2) (row := batx hs nu x) (v := x9) (by rw [k9 _ (by omega)]; exact C1.row) (by rfl) (by rw [(one_cells (own_one o9)).1]; rfl) (by simp [-bind_some, batx]) (one_cells (own_one o9)).2 fun g10 p10 s10 => ?_
          rw [bx_set _ _ _ _ _ (own_one o9) (by omega)] at p10
          refine .some (.inl ⟨rfl, k - 1, by omega, _, its ++ [i], x9, rfl, ⟨holt, C1.cd.keep (by rw [s10.2 _ (by omega), k9 _ (by omega)]), p10, o9.keep fun q hq _ => s10.2 q (by omega), fun j hj => ?_, by simp; omega⟩, by simp; omega⟩)
          rcases List.mem_append.1 hj with hj | hj
          · exact C1.nm j hj
          · rw [List.mem_singleton.1 hj]; exact itok_nm hi
        · exact .some (.inr ⟨by simp, rfl, _, _, _, _, C⟩)
      · rintro ⟨ex, ds, g⟩ ⟨rfl, hP⟩
        exact .some ⟨rfl, hP⟩
    refine sp_lvl (P := fun g => ∃ hs nu its x, Ck g 0 H.length hs nu its x) (fun _ => ?_) fun _ => ?_
    · simp only [C0.ld2, hlen, bs, dBin_gtr]
      refine sp_lvl (P := fun g => ∃ hs nu its x, Ck g 0 H.length hs nu its x) (fun hp => ?_) fun _ => Z _
      have hp : 0 < its.length := by have : (its.length : Int) > 0 := by simpa using hp
                                     omega
      obtain ⟨n, g8, e8, c8, s8, n0, n1⟩ := next_b C0.cd (its.length : Int) (by omega) (by omega)
      have C1 := C0.draw c8 s8
      obtain ⟨m, g9, e9, c9, s9, m0, m1⟩ := next_b C1.cd 3 (by omega) (by omega)
      have C2 := C1.draw c9 s9
      obtain ⟨ob, i, hob, hx, hi, hix, hgo⟩ := gx hp n n0 n1
      have hlit : pLitF tab ty98 3 [0, 1, 2] [.str [42], .str [120], .str []] = some (.sl 1 true (([[42], [120], []] : List Str).map fun s => [.str s])) := id rfl
      obtain ⟨s, hs1⟩ : ∃ s, ([[42], [120], []] : List Str)[m.toNat]? = some s := ⟨_, List.getElem?_eq_getElem (by show m.toNat < 3; omega)⟩
      have hix2 : dIndexAddr tab ty98 (.sl 1 true (([[42], [120], []] : List Str).map fun s => [.str s])) (.int .i64 m) = some (.fptr [.str s]) := by
        rw [ixs98 (SlOf.mk 1 (fun s => [.str s]) ([[42], [120], []] : List Str) true), if_pos m0, hs1]; rfl
      have hld : ∀ g : Hp, dLoad tab g ty9 (.fptr [.str s]) = some (.str s) := fun g => id rfl
      simp only [e8, e9, hlit, hix2, hld, hix, bs, fap74_0]
      refine wst9 (kk := n.toNat) (off := 0 + 0) (row := itr i) (hgo g9 c9 (s8.trans s9)) (by rw [List.getElem?_map, hi]; rfl) (by rfl) (by simp [-bind_some, itr]) (by rfl) fun g10 p10 s10 => ?_
      have hset : (its.map itr).set n.toNat (spl (itr i) (0 + 0) (cells1 (.str s))) = (its.set n.toNat ⟨s, i.e⟩).map itr := by
        rw [List.map_set]; rfl
      rw [hset] at p10
      rw [chk_true _ _ C1.ld2, chk_true _ _ C2.ld2]
      exact .some ⟨rfl, _, _, _, _, C2.iset hob hx s10 ⟨s, i.e⟩ p10 (C0.nm i (List.mem_of_getElem? hi))⟩
    refine sp_lvl (P := fun g => ∃ hs nu its x, Ck g 0 H.length hs nu its x) (fun _ => ?_) fun _ => Z _
    · simp only [C0.ld2, hlen, bs, dBin_gtr]
      refine sp_lvl (P := fun g => ∃ hs nu its x, Ck g 0 H.length hs nu its x) (fun hp => ?_) fun _ => Z _
      have hp : 0 < its.length := by have : (its.length : Int) > 0 := by simpa using hp
                                     omega
      obtain ⟨n, g8, e8, c8, s8, n0, n1⟩ := next_b C0.cd (its.length : Int) (by omega) (by omega)
      have C1 := C0.draw c8 s8
      obtain ⟨m, g9, e9, c9, s9, m0, m1⟩ := d47 C1.cd
      have C2 := C1.draw c9 s9
      obtain ⟨ob, i, hob, hx, hi, hix, hgo⟩ := gx hp n n0 n1
      simp only [e8, e9, hix, bs, fap74_1, fap31_3]
      refine wst3 (kk := n.toNat) (off := 0 + 1 + 3) (row := itr i) (hgo g9 c9 (s8.trans s9)) (by rw [List.getElem?_map, hi]; rfl) (by rfl) (by simp [-bind_some, itr, evr]) (by rfl) fun g10 p10 s10 => ?_
      have hset : (its.map itr).set n.toNat (spl (itr i) (0 + 1 + 3) (cells1 (.int .i64 m))) = (its.set n.toNat ⟨i.r, { i.e with a3 := m }⟩).map itr := by
        rw [List.map_set]; rfl
      rw [hset] at p10
      rw [chk_true _ _ C1.ld2, chk_true _ _ C2.ld2]
      exact .some ⟨rfl, _, _, _, _, C2.iset hob hx s10 ⟨i.r, { i.e with a3 := m }⟩ p10 (C0.nm i (List.mem_of_getElem? hi))⟩
  · rintro ⟨ex, ds, g⟩ ⟨rfl, hs, nu, its, x, C⟩
    simp only at C
    have r1 := s1094w hs nu its x g (.inr ⟨_, C.ow⟩)
    have r2 := s1113w hs nu its x g (.inr ⟨_, C.ow⟩) C.nm
    simp only [unblk_nrm, toEnd_nrm, C.ldb, bs, r1, r2, dBin_eql, decide_true, chk_true, mkRes_one, hsc]
    exact .some rfl
end Go.Proofs.YthaajlepgblimaaDoor
