/- Laws, on plain data, about functions that the statement reaches. -/
import Derived.Test.YtpenlmgmofhbpaaDoorL4
set_option linter.unusedSimpArgs false
set_option linter.unusedVariables false
set_option linter.unnecessarySimpa false
set_option maxRecDepth 100000
namespace Go.Proofs.YtpenlmgmofhbpaaDoor
open Go.Eng Go.Pi
theorem s1016r (l : List Mrk) (d : D) (t : Mrk) (fn : D) (c : Mrk → Int) (h : Hp) (hd : RdM h l d) (hl : l.length ≤ 1000000) (hf : ∀ x, callV R fn [.agg (mrkr x), .agg (mrkr t)] h = some (.int .i64 (c x), h))
   (k : Nat) (hk : k ≤ l.length) (h1 : ∀ i x, l[i]? = some x → i < k → c x < 0) (h2 : ∀ i x, l[i]? = some x → k ≤ i → 0 ≤ c x) :
   R fn1016 [d, .agg (mrkr t), fn] h = some (.tup [.int .i64 k, .bool (match l[k]? with | some x => decide (c x = 0) | none => false)], h) := by
  suffices Wp (R fn1016 [d, .agg (mrkr t), fn] h) (fun p => p = (.tup [.int .i64 k, .bool (match l[k]? with | some x => decide (c x = 0) | none => false)], h)) by
    obtain ⟨p, h1, rfl⟩ := this
    exact h1
  rw [e1016]
  simp only [F1016, pBoxF_agg, bs, Option.bind_assoc, rdM_len hd]
  refine Wp.loop (fun n ds g => g = h ∧ ∃ a b e, ∃ lo hi : Nat, ds = [.int .i64 lo, .int .i64 hi, a, b, e] ∧ lo ≤ k ∧ k ≤ hi ∧ hi ≤ l.length ∧ n = hi - lo)
      (fun x => x.1 = .ext 0 ∧ x.2.2 = h ∧ nth 0 x.2.1 = .int .i64 k) l.length ⟨rfl, _, _, _, 0, l.length, rfl, by omega, hk, Nat.le_refl _, rfl⟩ ?_ ?_
  · rintro n ds g ⟨rfl, a, b, e, lo, hi, rfl, hlo, hhi, hle, rfl⟩
    simp only [F1016_L0, nth_zero, nth_succ, bs, Option.bind_assoc, dBin_lss]
    refine Wp.dif ?_ ?_
    · intro h0
      have h0 : lo < hi := by have : (lo : Int) < hi := by simpa [-Option.bind_some] using h0
                              omega
      have hw : IntKind.wrap .i64 ((lo : Int) + hi) = ((lo + hi : Nat) : Int) := by
        rw [wrap_i64 (by omega) (by omega)]; omega
      have hw2 : IntKind.wrap .u64 ((lo + hi : Nat) : Int) = ((lo + hi : Nat) : Int) := by
        unfold IntKind.wrap
        simp [-Option.bind_some, IntKind.signed, IntKind.bits, IntKind.min, IntKind.max]
        omega
      have hw3 : (((lo + hi : Nat) : Int)).fdiv (2 ^ (min (Int.toNat 1) IntKind.u64.bits)) = (((lo + hi) / 2 : Nat) : Int) := by
        rw [show (2 : Int) ^ (min (Int.toNat 1) IntKind.u64.bits) = 2 by decide]
        rw [Int.fdiv_eq_ediv_of_nonneg _ (by omega)]
        omega
      have hw4 : IntKind.wrap .i64 (((lo + hi) / 2 : Nat) : Int) = (((lo + hi) / 2 : Nat) : Int) := wrap_i64 (by omega) (by omega)
      have hw5 : IntKind.wrap .i64 ((((lo + hi) / 2 : Nat) : Int) + 1) = (((lo + hi) / 2 + 1 : Nat) : Int) := by
        rw [wrap_i64 (by omega) (by omega)]; omega
      have hm : (lo + hi) / 2 < l.length := by omega
      have hm1 : lo ≤ (lo + hi) / 2 := by omega
      have hm2 : (lo + hi) / 2 < hi := by omega
      generalize (lo + hi) / 2 = mid at *
      have hg : l[mid]? = some l[mid] := List.getElem?_eq_getElem hm
      generalize l[mid] = x at hg
      obtain ⟨q0, i0, i1, _⟩ := rdM_ix hd mid x hg
      simp only [dBin_add, hw, cv3_134, cv134_3, bs, hw2, dBin_shr, show ¬ (1 : Int) < 0 by omega, if_false, hw3, hw4, i0, i1, mrkr_ld, hf, dBin_lss]
      by_cases hc : c x < 0
      · have hkm : mid < k := by
          rcases Nat.lt_or_ge mid k with hh | hh
          · exact hh
          · have := h2 mid x hg hh
            omega
        simp only [hc, decide_true, dIf_bool, if_true, bs, hw5, unblk_nrm, nth_zero, nth_succ]
        exact .some (.inl ⟨rfl, hi - (mid + 1), by omega, rfl, _, _, _, mid + 1, hi, rfl, by omega, hhi, hle, rfl⟩)
      · have hkm : k ≤ mid := by
          rcases Nat.lt_or_ge mid k with hh | hh
          · exact absurd (h1 mid x hg hh) hc
          · exact hh
        simp only [hc, decide_false, dIf_bool, Bool.false_eq_true, if_false, bs, unblk_nrm, nth_zero, nth_succ]
        exact .some (.inl ⟨rfl, mid - lo, by omega, rfl, _, _, _, lo, mid, rfl, hlo, hkm, by omega, rfl⟩)
    · intro h0
      have h0 : lo = k := by have : ¬ (lo : Int) < hi := by simpa [-Option.bind_some] using h0
                             omega
      subst h0
      exact .some (.inr ⟨by simp [-Option.bind_some], rfl, rfl, rfl⟩)
  · rintro ⟨ex, ds, g⟩ ⟨q1, q2, q3⟩
    simp only at q1 q2 q3
    subst q1; subst q2
    simp only [unblk_self, toEnd_nrm, nth_zero, q3, bs, dBin_lss]
    by_cases hkl : k < l.length
    · have hg : l[k]? = some l[k] := List.getElem?_eq_getElem hkl
      have hlt : (k : Int) < l.length := by omega
      generalize l[k] = x at hg
      obtain ⟨q0, i0, i1, _⟩ := rdM_ix hd k x hg
      simp only [hlt, decide_true, gd_bool, if_true, bs, i0, i1, hg, mrkr_ld, gdW_bool, hf, dBin_eql, dPick_bool, mkRes_two]
      exact .some rfl
    · have hg : l[k]? = none := List.getElem?_eq_none (by omega)
      have hlt : ¬ (k : Int) < l.length := by omega
      simp only [hlt, decide_false, gd_bool, Bool.false_eq_true, if_false, bs, gdW_bool, dPick_bool, mkRes_two, hg]
      exact .some rfl
theorem s1013r (l : List Mrk) (d : D) (hst fil : Int) (h : Hp) (hd : RdM h l d) (hl : l.length ≤ 1000000)
   (k : Nat) (hk : k ≤ l.length) (h1 : ∀ i x, l[i]? = some x → i < k → cmpM x ⟨hst, fil, 0⟩ < 0) (h2 : ∀ i x, l[i]? = some x → k ≤ i → 0 ≤ cmpM x ⟨hst, fil, 0⟩) :
   R fn1013 [d, .int .i64 hst, .int .i64 fil] h = some (.tup [.int .i64 k, .bool (match l[k]? with | some x => decide (cmpM x ⟨hst, fil, 0⟩ = 0) | none => false)], h) := by
  have hb : dBuild tab ty1006 [0, 1] [.int .i64 hst, .int .i64 fil] = some (.agg (mrkr ⟨hst, fil, 0⟩)) := id rfl
  rw [e1013]
  simp only [F1013, bs, hb, Option.bind_assoc]
  rw [s1016r l d ⟨hst, fil, 0⟩ (.fn (.func fn1017) [] []) (fun x => cmpM x ⟨hst, fil, 0⟩) h hd hl (fun x => by rw [callV_some]; exact s1017 x _ h) k hk h1 h2]
  rfl
theorem s1005r (l : List Mrk) (d dt : D) (hst fil : Int) (h : Hp) (hd : RdM h l d) (hl : l.length ≤ 1000000) (hs : MAsc l) : R fn1005 [.agg [d, dt], .int .i64 hst, .int .i64 fil] h = some (.int .i64 (markOf l hst fil), h) := by
  have hk := kM_le ⟨hst, fil, 0⟩ l
  have h13 := s1013r l d hst fil h hd hl (kM ⟨hst, fil, 0⟩ l) hk (kM_lt _ l) (kM_ge _ l hs)
  rw [e1005]
  unfold markOf
  generalize kM ⟨hst, fil, 0⟩ l = k at hk h13
  simp only [F1005, pBoxF_agg, bs, fa1009_0, ld1007, h13, dExtract_tup, List.getElem?_cons_zero, List.getElem?_cons_succ]
  cases hg : l[k]? with
  | none => simp [-Option.bind_some]
  | some x =>
    obtain ⟨q0, i0, i1, q2, i2, i3⟩ := rdM_ix hd k x hg
    by_cases hc : cmpM x ⟨hst, fil, 0⟩ = 0
    · simp [-Option.bind_some, hc, i0, i2, i3]
    · simp [-Option.bind_some, hc]
theorem u1095 (l : List Mrk) (d : D) (h : Hp) (hd : SlOf 3 mrkr l d) (hl : l.length ≤ 1000000) : ∃ d' h', R fn1095 [d] h = some (d', h') ∧ h.length ≤ h'.length ∧ (∀ q, q < h.length → h'[q]? = h[q]?) ∧
    ((l = [] ∧ (d' = .nils ∨ d' = .sl 3 true [])) ∨ ∃ ob, h.length ≤ ob ∧ d' = .msl 3 ob 0 l.length ∧ h'[ob]? = some (.row ty1006 3 (l.map mrkr))) := by
  rw [e1095]
  rcases hd with ⟨rfl, rfl⟩ | ⟨b, rfl⟩
  · exact ⟨.nils, h, by
      have hne : dBin tab .eql ty1007 .nils .nils = some (.bool true) := id rfl
      simp [-Option.bind_some, F1095, hne], Nat.le_refl _, fun _ _ => rfl, .inl ⟨rfl, .inl rfl⟩⟩
  · obtain ⟨x', h', e, hl', hq, ho⟩ := app_full (T := tab) (t := ty1007) (i := ti1007) (j := ti1006) (h := h) (id rfl) (id rfl) (id rfl) (by decide) (y := .sl 3 b (l.map mrkr)) (rowsOf_sl _ _ _ _) (lim_ok (by have : ti1006.by_ = 24 := rfl; rw [this, List.length_map]; omega) (by rw [List.length_map]; omega))
    have e' : dAppend tab h ty1007 ty1007 (.sl 3 true []) (.sl 3 b (l.map mrkr)) = some (x', h') := e
    have hne : dBin tab .eql ty1007 (.sl 3 b (l.map mrkr)) .nils = some (.bool false) := id rfl
    refine ⟨x', h', ?_, hl', hq, ?_⟩
    · simp only [F1095, bs, hne, dIf_bool, Bool.false_eq_true, if_false, bs1007_0, e', mkRes_one]
    · rcases ho with ⟨rfl, hn⟩ | ⟨rfl, hn⟩ | ⟨ob, h1, rfl, h2⟩
      · have : l = [] := by simpa [-Option.bind_some] using hn
        exact .inl ⟨this, .inr rfl⟩
      · have : l = [] := by simpa [-Option.bind_some] using hn
        exact .inl ⟨this, .inl rfl⟩
      · exact .inr ⟨ob, h1, by rw [List.length_map]; rfl, h2⟩
theorem u79r (l : List Tal) (d : D) (h : Hp) (hd : RdT h l d) (hl : l.length ≤ 1000000) : ∃ d' h', R fn79 [d] h = some (d', h') ∧ h.length ≤ h'.length ∧ (∀ q, q < h.length → h'[q]? = h[q]?) ∧
    ((l = [] ∧ (d' = .nils ∨ d' = .sl 3 true [])) ∨ ∃ ob, h.length ≤ ob ∧ d' = .msl 3 ob 0 l.length ∧ h'[ob]? = some (.row ty106 3 (l.map talr))) := by
  rcases hd with hd | ⟨ob0, rfl, ho0⟩
  · exact u79 l d h hd hl
  rw [e79]
  by_cases hl0 : l = []
  · subst hl0
    exact ⟨.sl 3 true [], h, by
      have hne : dBin tab .eql ty58 (.msl 3 ob0 0 0) .nils = some (.bool false) := id rfl
      have hap : dAppend tab h ty58 ty58 (.sl 3 true []) (.msl 3 ob0 0 0) = some (.sl 3 true [], h) := by
        have hsrc : dSrc h ti58 ti106 (.msl 3 ob0 0 0) = some [] := by
          have h1 : dRowsOf h 3 (.msl 3 ob0 0 0) = some [] := by simp [-Option.bind_some, dRowsOf, ho0]
          have h2 : ti58.td = .sl ty106 := id rfl
          have h3 : ti106.sz = 3 := id rfl
          simp only [dSrc, h2, h3, h1]
        have h4 : tab ty58 = some ti58 := id rfl
        have h5 : ti58.td = .sl ty106 := id rfl
        have h6 : tab ty106 = some ti106 := id rfl
        have h7 : Nat.blt 0 ti106.sz = true := id rfl
        simp only [dAppend, h4, h5, h6, h7, hsrc]
      simp [-Option.bind_some, F79, hne, hap], Nat.le_refl _, fun _ _ => rfl, .inl ⟨rfl, .inr rfl⟩⟩
  · obtain ⟨x', h', e, hl', hq, ho⟩ := app_full (T := tab) (t := ty58) (i := ti58) (j := ti106) (h := h) (id rfl) (id rfl) (id rfl) (by decide) (y := .msl 3 ob0 0 l.length) (show dRowsOf h 3 _ = some (l.map talr) by simp [-Option.bind_some, dRowsOf, ho0]; exact List.take_of_length_le (by simp [-Option.bind_some])) (lim_ok (by have : ti106.by_ = 32 := rfl; rw [this, List.length_map]; omega) (by rw [List.length_map]; omega))
    have e' : dAppend tab h ty58 ty58 (.sl 3 true []) (.msl 3 ob0 0 l.length) = some (x', h') := e
    have hne : dBin tab .eql ty58 (.msl 3 ob0 0 l.length) .nils = some (.bool false) := id rfl
    refine ⟨x', h', ?_, hl', hq, ?_⟩
    · simp only [F79, bs, hne, dIf_bool, Bool.false_eq_true, if_false, bs58_0, e', mkRes_one]
    · rcases ho with ⟨rfl, hn⟩ | ⟨rfl, hn⟩ | ⟨ob, h1, rfl, h2⟩
      · have : l = [] := by simpa [-Option.bind_some] using hn
        exact .inl ⟨this, .inr rfl⟩
      · have : l = [] := by simpa [-Option.bind_some] using hn
        exact .inl ⟨this, .inl rfl⟩
      · exact .inr ⟨ob, h1, by rw [List.length_map]; rfl, h2⟩
theorem s59r (l : List Tal) (d : D) (hst : Int) (rule : Str) (n : Int) (h : Hp) (hd : RdT h l d) (hl : l.length ≤ 1000000) (hs : TAsc l) :
    ∃ d', R fn59 [d, .int .i64 hst, .str rule, .int .i64 n] h = some (d', h) ∧ SlOf 3 talr (addT l hst rule n) d' := by
  suffices Wp (R fn59 [d, .int .i64 hst, .str rule, .int .i64 n] h) (fun p => p.2 = h ∧ SlOf 3 talr (addT l hst rule n) p.1) by
    obtain ⟨⟨x, h'⟩, h1, rfl, h2⟩ := this
    exact ⟨x, h1, h2⟩
  rw [e59]
  obtain ⟨d1, h1, e1, hl1, hb1, hd1⟩ := u79r l d h hd hl
  simp only [F59, bs, e1, dBin_lss]
  refine Wp.dif (fun hn => ?_) (fun hn => ?_)
  · have hn : n < 1 := by simpa [-Option.bind_some] using hn
    have ha : addT l hst rule n = l := by simp [-Option.bind_some, addT, hn]
    rw [ha]
    rcases hd1 with ⟨rfl, rfl | rfl⟩ | ⟨ob, hob, rfl, ho⟩
    · simp only [mkRes_one, bs]
      rw [scope_eq rfl (by simp [-Option.bind_some]; exact .nils) hl1 hb1]
      exact .some ⟨rfl, by simpa [-Option.bind_some] using SlOf.nils _ _⟩
    · have hsl : SlOf 3 talr [] (.sl 3 true []) := .inr ⟨true, rfl⟩
      simp only [mkRes_one, bs]
      rw [scope_eq (d' := .sl 3 true []) rfl (slof_ok hsl fun a _ => talr_ok _ a) hl1 hb1]
      exact .some ⟨rfl, hsl⟩
    · have ow : Own h1 h.length ty106 3 (l.map talr) (.msl 3 ob 0 l.length) := .inr ⟨ob, hob, by simp [-Option.bind_some], ho⟩
      have hsl := own_sl (n0 := h.length) (n := 3) ow (Nat.le_refl _) (fun a _ => talr_frz _ h1 _ a)
      simp only [mkRes_one, bs]
      rw [scope_eq rfl (slof_ok hsl fun a _ => talr_ok _ a) hl1 hb1]
      exact .some ⟨rfl, hsl⟩
  · have hn : ¬ n < 1 := by simpa [-Option.bind_some] using hn
    have ha : addT l hst rule n = addK l hst rule n (kT ⟨hst, rule, 0⟩ l) := by simp [-Option.bind_some, addT, hn]
    rw [ha]
    have hrd : RdT h1 l d1 := by
      rcases hd1 with ⟨rfl, rfl | rfl⟩ | ⟨ob, hob, rfl, ho⟩
      · exact .inl (.nils _ _)
      · exact .inl (.inr ⟨true, rfl⟩)
      · exact .inr ⟨ob, rfl, ho⟩
    have hk := kT_le ⟨hst, rule, 0⟩ l
    have h80 := s80 l d1 hst rule h1 hrd hl (kT ⟨hst, rule, 0⟩ l) hk (kT_lt _ l) (kT_ge _ l hs)
    generalize kT ⟨hst, rule, 0⟩ l = k at hk h80
    simp only [h80, bs, dExtract_tup, List.getElem?_cons_zero, List.getElem?_cons_succ, dUn_not]
    refine Wp.join (P := fun r => ∃ (d2 : D) (h2 : Hp) (ob : Nat) (L : List Tal) (x : Tal), r = (.nrm, [d2], h2) ∧ d2 = .msl 3 ob 0 L.length ∧ h.length ≤ ob ∧ h.length ≤ h2.length ∧ (∀ q, q < h.length → h2[q]? = h[q]?) ∧ h2[ob]? = some (.row ty106 3 (L.map talr)) ∧ L[k]? = some x ∧ L.set k ⟨x.h, x.r, IntKind.wrap .i64 (x.n + n)⟩ = addK l hst rule n k) ?_ ?_ ?_
    · intro hf
      have hadd : addK l hst rule n k = l.take k ++ [⟨hst, rule, IntKind.wrap .i64 (0 + n)⟩] ++ l.drop k := by
        unfold addK
        cases hg : l[k]? with
        | none => rfl
        | some x =>
          rw [hg] at hf
          have : ¬ cmpT x ⟨hst, rule, 0⟩ = 0 := by simpa [-Option.bind_some] using hf
          simp [-Option.bind_some, this]
      have hlt : (l.take k).length = k := by simp [-Option.bind_some]; omega
      have hL : (l.take k ++ [(⟨hst, rule, 0⟩ : Tal)] ++ l.drop k)[k]? = some ⟨hst, rule, 0⟩ := by
        rw [List.append_assoc, List.getElem?_append_right (by omega), hlt]; simp [-Option.bind_some]
      have hset : (l.take k ++ [(⟨hst, rule, 0⟩ : Tal)] ++ l.drop k).set k ⟨hst, rule, IntKind.wrap .i64 (0 + n)⟩ = l.take k ++ [⟨hst, rule, IntKind.wrap .i64 (0 + n)⟩] ++ l.drop k := by
        rw [List.append_assoc, List.set_append_right _ _ (by omega), hlt]; simp [-Option.bind_some]
      have hlen : (l.take k ++ [(⟨hst, rule, 0⟩ : Tal)] ++ l.drop k).length = l.length + 1 := by simp [-Option.bind_some]; omega
      have hmap : (l.take k ++ [(⟨hst, rule, 0⟩ : Tal)] ++ l.drop k).map talr = (l.map talr).take k ++ [[.int .i64 hst, .str rule, .int .i64 0]] ++ (l.map talr).drop k := by
        rw [List.map_append, List.map_append, List.map_take, List.map_drop]; rfl
      have hz : ti106.sz = 3 := rfl
      have hlim : lim (l.length + 1) ti106.by_ = true := lim106 (by omega)
      have hlim1 : lim 1 ti106.by_ = true := lim106 (by omega)
      simp only [bd106_0_1, bs58_1, bs, xins81]
      rcases hd1 with ⟨rfl, hdd⟩ | ⟨ob, hob, rfl, ho⟩
      · have hk0 : k = 0 := by simpa [-Option.bind_some] using hk
        subst hk0
        have hi : dIns ty106 ti106 [d1, .int .i64 ((0 : Nat) : Int), .sl 3 true [[.int .i64 hst, .str rule, .int .i64 0]]] h1 = some (.msl 3 h1.length 0 1, dNew h1 ty106 3 [[.int .i64 hst, .str rule, .int .i64 0]]) := by
          rcases hdd with rfl | rfl <;> simp [-Option.bind_some, dIns, hz, hlim1]
        rw [hi]
        simp only [bs]
        refine .some ⟨_, _, h1.length, [⟨hst, rule, 0⟩], ⟨hst, rule, 0⟩, rfl, rfl, hl1, ?_, fun q hq => ?_, dNew_get _ _ _ _, rfl, ?_⟩
        · simp [-Option.bind_some, dNew]; omega
        · rw [dNew_old _ _ _ _ (by omega)]; exact hb1 q hq
        · rw [hadd]; simp [-Option.bind_some]
      · have hi : dIns ty106 ti106 [.msl 3 ob 0 l.length, .int .i64 (k : Int), .sl 3 true [[.int .i64 hst, .str rule, .int .i64 0]]] h1 = some (.msl 3 h1.length 0 (l.length + 1), dNew (h1.set ob .dead) ty106 3 ((l.map talr).take k ++ [[.int .i64 hst, .str rule, .int .i64 0]] ++ (l.map talr).drop k)) := by
          have hkl : (k : Int) ≤ (l.length : Int) := by omega
          simp [-Option.bind_some, dIns, hz, hlim, ho, hkl]
        rw [hi]
        simp only [bs]
        refine .some ⟨_, _, h1.length, l.take k ++ [⟨hst, rule, 0⟩] ++ l.drop k, ⟨hst, rule, 0⟩, rfl, by rw [hlen], hl1, ?_, fun q hq => ?_, ?_, hL, by rw [hadd]; exact hset⟩
        · simp [-Option.bind_some, dNew]; omega
        · rw [dNew_old _ _ _ _ (by simp [-Option.bind_some]; omega), List.getElem?_set_ne (by omega)]; exact hb1 q hq
        · have := dNew_get (h1.set ob .dead) ty106 3 ((l.take k ++ [(⟨hst, rule, 0⟩ : Tal)] ++ l.drop k).map talr)
          simp only [List.length_set] at this
          rw [hmap] at this ⊢
          exact this
    · intro hf
      cases hg : l[k]? with
      | none => rw [hg] at hf; simp [-Option.bind_some] at hf
      | some x =>
        rw [hg] at hf
        have hc : cmpT x ⟨hst, rule, 0⟩ = 0 := by simpa [-Option.bind_some] using hf
        rcases hd1 with ⟨rfl, hdd⟩ | ⟨ob, hob, rfl, ho⟩
        · simp [-Option.bind_some] at hg
        · refine .some ⟨_, _, ob, l, x, rfl, rfl, hob, hl1, hb1, ho, hg, ?_⟩
          simp [-Option.bind_some, addK, hg, hc]
    · rintro _ ⟨d2, h2, ob, L, x, rfl, rfl, hob, hl2, hb2, ho, hx, hfin⟩
      have hkL : k < L.length := (List.getElem?_eq_some_iff.1 hx).1
      have hkl2 : (0 : Int) ≤ (k : Int) ∧ (k : Int) < (L.length : Int) := by omega
      have hr : (L.map talr)[k]? = some (talr x) := by rw [List.getElem?_map, hx]; rfl
      simp only [toEnd_nrm, nth_zero, bs, ixm58, hkl2, and_self, if_true, fap106_2, Int.toNat_natCast, Nat.zero_add, ldp3, row_of ho, hr]
      simp only [talr, List.drop_succ_cons, List.drop_zero, List.head?_cons, bs, dBin_add]
      simp only [Option.bind_assoc, bs]
      refine wst3 (off := 2) (v := .int .i64 (IntKind.wrap .i64 (x.n + n))) ho hr rfl (by simp [-Option.bind_some, talr]) rfl fun h3 q3 s3 => ?_
      have hset : (L.map talr).set k (spl (talr x) 2 (cells1 (.int .i64 (IntKind.wrap .i64 (x.n + n))))) = (addK l hst rule n k).map talr := by
        rw [← hfin, List.map_set]; rfl
      rw [hset] at q3
      simp only [bs, mkRes_one]
      have hlen : (addK l hst rule n k).length = L.length := by rw [← hfin]; simp [-Option.bind_some]
      have ow : Own h3 h.length ty106 3 ((addK l hst rule n k).map talr) (.msl 3 ob 0 L.length) := .inr ⟨ob, hob, by simp [-Option.bind_some, hlen], q3⟩
      have hsl := own_sl (n0 := h.length) (n := 3) ow (Nat.le_refl _) (fun a _ => talr_frz _ h3 _ a)
      rw [scope_eq rfl (slof_ok hsl fun a _ => talr_ok _ a) (by have := s3.1; omega) (fun q hq => (s3.2 q (by omega)).trans (hb2 q hq))]
      exact .some ⟨rfl, hsl⟩
theorem s1097 {g : Hp} {w : Nat} {dm dt de : D} {ts : List Tal} (hw : g[w]? = some (.row ty1073 3 [[dm, dt, de]])) (ht : RdT g ts dt) (hl : ts.length ≤ 1000000) (hs : TAsc ts) (hst : Int) (rule : Str) (n : Int) :
    ∃ dt' g', R fn1097 [.ptr w 0 0, .int .i64 hst, .str rule, .int .i64 n] g = some (.tup [], g') ∧ g'[w]? = some (.row ty1073 3 [[dm, dt', de]]) ∧ SlOf 3 talr (addT ts hst rule n) dt' ∧ Same w g g' := by
  suffices Wp (R fn1097 [.ptr w 0 0, .int .i64 hst, .str rule, .int .i64 n] g) (fun p => p.1 = .tup [] ∧ ∃ dt', p.2[w]? = some (.row ty1073 3 [[dm, dt', de]]) ∧ SlOf 3 talr (addT ts hst rule n) dt' ∧ Same w g p.2) by
    obtain ⟨⟨x, g'⟩, h1, rfl, dt', h2⟩ := this
    exact ⟨dt', g', h1, h2⟩
  rw [e1097]
  obtain ⟨d', hs', hd'⟩ := s59r ts dt hst rule n g ht hl hs
  have oc := one_cells (slof_one hd')
  simp only [F1097, bs, nilCheck_ptr, fap1073_0, fap1009_1, ldp58, row_of hw, List.getElem?_cons_zero, Nat.zero_add, List.drop_succ_cons, List.drop_zero, List.head?_cons, hs', Option.bind_assoc]
  refine wst58 (off := 1) hw rfl (by rw [oc.1]; rfl) (by simp [-Option.bind_some]) oc.2 fun g' q s => ?_
  rw [oc.1] at q
  try simp only [bs]
  exact .some ⟨rfl, d', q, hd', s⟩
/-- Fields in an object of one's own. -/
def LvF (h : Hp) (n0 : Nat) (l : List (Str × Str)) (d : D) : Prop := (l = [] ∧ SlOf 2 fld [] d) ∨ ∃ ob, n0 ≤ ob ∧ d = .msl 2 ob 0 l.length ∧ h[ob]? = some (.row ty109 2 (l.map fld))
theorem LvF.one {h : Hp} {n0 : Nat} {l : List (Str × Str)} {d : D} (hd : LvF h n0 l d) : d.one = true := by
  rcases hd with ⟨_, hd⟩ | ⟨ob, _, rfl, _⟩
  · exact slof_one hd
  · rfl
theorem LvF.keep {h h' : Hp} {n0 : Nat} {l : List (Str × Str)} {d : D} (hd : LvF h n0 l d) (hk : ∀ q, n0 ≤ q → h'[q]? = h[q]?) : LvF h' n0 l d := by
  rcases hd with hd | ⟨ob, h1, h2, h3⟩
  · exact .inl hd
  · exact .inr ⟨ob, h1, h2, (hk ob h1).trans h3⟩
theorem LvF.frz {h : Hp} {n0 n1 n : Nat} {l : List (Str × Str)} {d : D} (hd : LvF h n1 l d) (hn : n0 ≤ n1) : SlOf 2 fld l (frz n0 h (n + 1) d) := by
  rcases hd with ⟨rfl, hd⟩ | ⟨ob, h1, rfl, h3⟩
  · rw [slof_frz hd (fun a ha => by cases ha)]; exact hd
  · have ow : Own h n1 ty109 2 (l.map fld) (.msl 2 ob 0 l.length) := .inr ⟨ob, h1, by simp [-Option.bind_some], h3⟩
    exact own_sl ow hn (fun a _ => fld_frz _ h _ a)
theorem s1002u (i : It) (n : Int) (h : Hp) (hl : i.e.ls.length ≤ 1000000) (hf : i.e.fs.length ≤ 1000000) : ∃ j, R fn1002 [.agg (itr i), .int .i64 n] h = some (.tup [.agg (itr j), .bool (decide (¬ idx (fun l => decide (l.off = n)) 0 i.e.ls < 1))], h) ∧ (if idx (fun l => decide (l.off = n)) 0 i.e.ls < 1 then j = it0 else CutOf i n (idx (fun l => decide (l.off = n)) 0 i.e.ls).toNat j) := by
  suffices Wp (R fn1002 [.agg (itr i), .int .i64 n] h) (fun p => p.2 = h ∧ ∃ j, p.1 = .tup [.agg (itr j), .bool (decide (¬ idx (fun l => decide (l.off = n)) 0 i.e.ls < 1))] ∧ (if idx (fun l => decide (l.off = n)) 0 i.e.ls < 1 then j = it0 else CutOf i n (idx (fun l => decide (l.off = n)) 0 i.e.ls).toNat j)) by
    obtain ⟨⟨x, h'⟩, h1, rfl, j, rfl, h2⟩ := this
    exact ⟨j, h1, h2⟩
  rw [e1002]
  simp only [F1002, bs, Option.bind_assoc, pBoxF_int]
  rw [wBox_agg ty74 11 h (itr i) rfl (by omega)]
  generalize hg0 : dNew h ty74 11 [itr i] = g0
  have hgl : g0.length = h.length + 1 := by simp [-Option.bind_some, ← hg0, dNew]
  have hb : ∀ q, q < h.length → g0[q]? = h[q]? := fun q hq => by simp only [← hg0, dNew]; rw [List.getElem?_append_left hq]
  have p8 : g0[h.length]? = some (.row ty74 11 [itr i]) := by simp [-Option.bind_some, ← hg0, dNew]
  clear hg0
  simp only [bs, hgl]
  generalize hg1 : dNew g0 ty74 11 [[.str [], .int .i64 0, .int .i64 0, .int .i64 0, .int .i64 0, .nils, .int .i64 0, .int .i64 0, .str [], .str [], .nils]] = g1
  have hgl1 : g1.length = h.length + 2 := by simp [-Option.bind_some, ← hg1, dNew, hgl]
  have hb1 : ∀ q, q < h.length + 1 → g1[q]? = g0[q]? := fun q hq => by simp only [← hg1, dNew]; rw [List.getElem?_append_left (by omega)]
  have p9 : g1[h.length + 1]? = some (.row ty74 11 [[.str [], .int .i64 0, .int .i64 0, .int .i64 0, .int .i64 0, .nils, .int .i64 0, .int .i64 0, .str [], .str [], .nils]]) := by
    simp only [← hg1, dNew]; rw [← hgl, List.getElem?_append_right (Nat.le_refl _)]; simp [-Option.bind_some]
  replace p8 := (hb1 h.length (by omega)).trans p8
  replace hb : ∀ q, q < h.length → g1[q]? = h[q]? := fun q hq => (hb1 q (by omega)).trans (hb q hq)
  clear hg1 hb1 hgl
  have r8 : g1.row h.length 0 = some [.str i.r, .int .i64 i.e.a0, .int .i64 i.e.a1, .int .i64 i.e.a2, .int .i64 i.e.a3, i.e.ld, .int .i64 i.e.a5, .int .i64 i.e.a6, .str i.e.s7, .str i.e.s8, i.e.fd] := row_of p8
  simp only [fap74_1, fap31_4, bs, ldp28, r8, List.drop_succ_cons, List.drop_zero, List.head?_cons, Nat.zero_add]
  rw [s1006 i.e.ls i.e.ld _ (fun l => decide (l.off = n)) g1 i.e.hld i.e.hll (fun x => by rw [callV_some]; exact s1007 x n g1)]
  generalize hk : idx (fun l => decide (l.off = n)) 0 i.e.ls = kk
  have hkr := idx_range (fun l : Lin => decide (l.off = n)) i.e.ls 0
  rw [hk] at hkr
  simp only [bs, dBin_lss]
  refine Wp.dif ?_ ?_
  · intro hlt
    have hlt : kk < 1 := by simpa [-Option.bind_some] using hlt
    simp only [bd74_, bs]
    refine wst74 p9 (by rfl) (by rfl) (by simp [-Option.bind_some]) (by rfl) fun g2 q9 s2 => ?_
    replace q9 : g2[h.length + 1]? = some (.row ty74 11 [itr it0]) := q9
    simp only [ldob11 q9 rfl, bs, mkRes_two]
    rw [scope_eq (d' := .tup [.agg (itr it0), .bool false]) (by rfl) (.tup _ fun d hd => by
      simp [-Option.bind_some] at hd
      rcases hd with rfl | rfl
      · exact itr_ok _ _
      · constructor) (by have := s2.1; omega) (fun q hq => (s2.2 q (by omega)).trans (hb q hq))]
    exact .some ⟨rfl, it0, by simp [-Option.bind_some, hlt], by simp [-Option.bind_some, hlt]⟩
  · intro hlt
    have hlt : ¬ kk < 1 := by simpa [-Option.bind_some] using hlt
    have hk1 : kk < i.e.ls.length := by
      rcases hkr with hh | ⟨_, hh⟩
      · omega
      · simpa [-Option.bind_some] using hh
    obtain ⟨y1, hs1, hy1⟩ := slof_lo (T := tab) (t := ty28) (i := ti28) (j := ti78) (id rfl) (id rfl) (id rfl) (id rfl) i.e.hld (k := .i64) (n := kk) (by omega) (by omega)
    obtain ⟨y2, hs2, hy2⟩ := s1008 _ y1 g1 hy1 (by simp [-Option.bind_some]; omega)
    simp only [ld3, hs1, hs2, bs, fap74_1, fap31_2, fap31_4, Nat.zero_add, chk_true]
    refine wst3 p8 (by rfl) (by rfl) (by simp [-Option.bind_some, itr, evr]) (by rfl) fun g2 q8 t2 => ?_
    have oc := one_cells (slof_one hy2)
    refine wst28 q8 (by rfl) (by rw [oc.1]; rfl) (by simp [-Option.bind_some, spl, cells1, itr, evr]) oc.2 fun g3 q8' t3 => ?_
    rw [oc.1] at q8'
    replace q8 : g3[h.length]? = some (.row ty74 11 [[.str i.r, .int .i64 i.e.a0, .int .i64 i.e.a1, .int .i64 n, .int .i64 i.e.a3, y2, .int .i64 i.e.a5, .int .i64 i.e.a6, .str i.e.s7, .str i.e.s8, i.e.fd]]) := q8'
    replace t2 := t2.trans t3
    clear q8' t3 hs1 hy1 oc
    have r8 : g3.row h.length 0 = some [.str i.r, .int .i64 i.e.a0, .int .i64 i.e.a1, .int .i64 n, .int .i64 i.e.a3, y2, .int .i64 i.e.a5, .int .i64 i.e.a6, .str i.e.s7, .str i.e.s8, i.e.fd] := row_of q8
    obtain ⟨y3, g3', hs3, hl3, hb3, hy3⟩ := u1009 _ _ g3 i.e.hfd hf
    have hg3l : h.length + 2 ≤ g3.length := by have := t2.1; omega
    have hlv : LvF g3' (h.length + 2) i.e.fs y3 := by
      rcases hy3 with hy3 | ⟨ob, h1, h2⟩
      · exact .inl hy3
      · exact .inr ⟨ob, by omega, h2⟩
    simp only [bs, fap31_9, Nat.zero_add, ldp29, r8, List.drop_succ_cons, List.drop_zero, List.head?_cons, hs3]
    have oc := one_cells hlv.one
    replace q8 := (hb3 _ (by omega)).trans q8
    replace p9 := (hb3 (h.length + 1) (by omega)).trans ((t2.2 (h.length + 1) (by omega)).trans p9)
    refine wst29 q8 (by rfl) (by rw [oc.1]; rfl) (by simp [-Option.bind_some]) oc.2 fun g4 q8' t4 => ?_
    rw [oc.1] at q8'
    have hlv4 := hlv.keep (h' := g4) fun q hq => t4.2 q (by omega)
    replace q8 : g4[h.length]? = some (.row ty74 11 [[.str i.r, .int .i64 i.e.a0, .int .i64 i.e.a1, .int .i64 n, .int .i64 i.e.a3, y2, .int .i64 i.e.a5, .int .i64 i.e.a6, .str i.e.s7, .str i.e.s8, y3]]) := q8'
    replace hb : ∀ q, q < h.length → g4[q]? = h[q]? := fun q hq => (t4.2 q (by omega)).trans ((hb3 q (by omega)).trans ((t2.2 q (by omega)).trans (hb q hq)))
    replace p9 := (t4.2 (h.length + 1) (by omega)).trans p9
    have hg4l : h.length + 2 ≤ g4.length := by have := t4.1; omega
    clear q8' t2 t4 hs3 oc r8 hb3 hl3
    have hrow : ([.str i.r, .int .i64 i.e.a0, .int .i64 i.e.a1, .int .i64 n, .int .i64 i.e.a3, y2, .int .i64 i.e.a5, .int .i64 i.e.a6, .str i.e.s7, .str i.e.s8, y3] : List D).length = 11 := rfl
    have hok : (D.agg [.str i.r, .int .i64 i.e.a0, .int .i64 i.e.a1, .int .i64 n, .int .i64 i.e.a3, y2, .int .i64 i.e.a5, .int .i64 i.e.a6, .str i.e.s7, .str i.e.s8, y3]).okv = true := by
      have o1 := slof_one hy2
      have o2 := hlv4.one
      clear hlv hlv4 q8 hy3 hs2
      cases y2 <;> first | (cases y3 <;> first | rfl | (simp [-Option.bind_some, D.one] at o2)) | (simp [-Option.bind_some, D.one] at o1)
    simp only [ldob11 q8 hrow, bs]
    refine wst74 p9 (by rfl) (by rfl) (by simp [-Option.bind_some]) hok fun g5 q9 t5 => ?_
    replace q9 : g5[h.length + 1]? = some (.row ty74 11 [[.str i.r, .int .i64 i.e.a0, .int .i64 i.e.a1, .int .i64 n, .int .i64 i.e.a3, y2, .int .i64 i.e.a5, .int .i64 i.e.a6, .str i.e.s7, .str i.e.s8, y3]]) := q9
    simp only [ldob11 q9 hrow, bs, mkRes_two]
    have hsl := (hlv4.keep (h' := g5) fun q hq => t5.2 q (by omega)).frz (n0 := h.length) (n := 1) (by omega)
    have hf2 := slof_frz (n0 := h.length) (h := g5) (n := 1) hy2 (fun a _ => linr_frz _ g5 _ a)
    generalize hj : (⟨i.r, ⟨i.e.a0, i.e.a1, n, i.e.a3, i.e.ls.drop kk.toNat, y2, i.e.a5, i.e.a6, i.e.s7, i.e.s8, i.e.fs, frz h.length g5 2 y3, hsl, i.e.hl, hy2, by have := i.e.hll; simp [-Option.bind_some]; omega⟩⟩ : It) = j
    have hcut : CutOf i n kk.toNat j := by subst hj; exact ⟨rfl, rfl, rfl, rfl, rfl, rfl, rfl, rfl, rfl, rfl, rfl⟩
    have hfz : frz h.length g5 4 (.tup [.agg [.str i.r, .int .i64 i.e.a0, .int .i64 i.e.a1, .int .i64 n, .int .i64 i.e.a3, y2, .int .i64 i.e.a5, .int .i64 i.e.a6, .str i.e.s7, .str i.e.s8, y3], .bool true]) = .tup [.agg (itr j), .bool true] := by
      subst hj
      simp only [frz_tup, frz_agg, List.map_cons, List.map_nil, frz_bool, frz_str, frz_int, hf2]
      rfl
    rw [scope_eq hfz (.tup _ fun d hd => by
      simp [-Option.bind_some] at hd
      rcases hd with rfl | rfl
      · exact itr_ok _ _
      · constructor) (by have := t5.1; omega) (fun q hq => (t5.2 q (by omega)).trans (hb q hq))]
    exact .some ⟨rfl, j, by simp [-Option.bind_some, hlt], by simp [-Option.bind_some, hlt]; exact hcut⟩
/-- An event whose fields lie in an object of one's own. -/
def evl (p : Ev × D) : List D := [.int .i64 p.1.a0, .int .i64 p.1.a1, .int .i64 p.1.a2, .int .i64 p.1.a3, p.1.ld, .int .i64 p.1.a5, .int .i64 p.1.a6, .str p.1.s7, .str p.1.s8, p.2]
def MkD (g : Hp) (n0 : Nat) (l : List Mrk) (d : D) : Prop := (l = [] ∧ (d = .nils ∨ d = .sl 3 true [])) ∨ ∃ ob, n0 ≤ ob ∧ d = .msl 3 ob 0 l.length ∧ g[ob]? = some (.row ty1006 3 (l.map mrkr))
theorem MkD.rd {g : Hp} {n0 : Nat} {l : List Mrk} {d : D} (h : MkD g n0 l d) : RdM g l d := by
  rcases h with ⟨rfl, rfl | rfl⟩ | ⟨ob, _, rfl, ho⟩
  · exact .inl (.nils _ _)
  · exact .inl (.inr ⟨true, rfl⟩)
  · exact .inr ⟨ob, rfl, ho⟩
theorem MkD.one {g : Hp} {n0 : Nat} {l : List Mrk} {d : D} (h : MkD g n0 l d) : d.one = true := by
  rcases h with ⟨rfl, rfl | rfl⟩ | ⟨ob, _, rfl, ho⟩ <;> rfl
/-- Tallies here. -/
def TlD (g : Hp) (n0 : Nat) (l : List Tal) (d : D) : Prop := SlOf 3 talr l d ∨ ∃ ob, n0 ≤ ob ∧ d = .msl 3 ob 0 l.length ∧ g[ob]? = some (.row ty106 3 (l.map talr))
theorem TlD.rd {g : Hp} {n0 : Nat} {l : List Tal} {d : D} (h : TlD g n0 l d) : RdT g l d := by
  rcases h with h | ⟨ob, _, rfl, ho⟩
  · exact .inl h
  · exact .inr ⟨ob, rfl, ho⟩
theorem TlD.one {g : Hp} {n0 : Nat} {l : List Tal} {d : D} (h : TlD g n0 l d) : d.one = true := by
  rcases h with h | ⟨ob, _, rfl, ho⟩
  · exact slof_one h
  · rfl
/-- An intake that takes the items of a batch. -/
structure WkI (n0 w : Nat) (g : Hp) (ms : List Mrk) (ts : List Tal) (evs : List (Ev × D)) (dm dt de : D) : Prop where
  len : n0 ≤ g.length
  wn : n0 ≤ w
  row : g[w]? = some (.row ty1073 3 [[dm, dt, de]])
  mr : MkD g n0 ms dm
  tl : TlD g n0 ts dt
  ev : Own g n0 ty31 10 (evs.map evl) de
  fs : ∀ p ∈ evs, LvF g n0 p.1.fs p.2
  ma : MAsc ms
  ta : TAsc ts
/-- All but one object, which is none of marks, events or fields. -/
theorem WkI.chg {n0 w : Nat} {g g' : Hp} {ms : List Mrk} {ts ts' : List Tal} {evs : List (Ev × D)} {dm dt de dt' : D} (W : WkI n0 w g ms ts evs dm dt de) {z T sz : Nat} {rows : List (List D)} (hz : g[z]? = some (.row T sz rows)) (h1 : T ≠ ty1006) (h2 : T ≠ ty31) (h3 : T ≠ ty109) (hs : Same z g g')
    (hw : g'[w]? = some (.row ty1073 3 [[dm, dt', de]])) (ht : TlD g' n0 ts' dt') (hta : TAsc ts') : WkI n0 w g' ms ts' evs dm dt' de := by
  have ne : ∀ {q T' sz' : Nat} {rows' : List (List D)}, g[q]? = some (.row T' sz' rows') → T' ≠ T → q ≠ z := fun hq hn => row_ne hq hz hn
  refine ⟨by have := W.len; have := hs.1; omega, W.wn, hw, ?_, ht, ?_, fun p hp => ?_, W.ma, hta⟩
  · rcases W.mr with h | ⟨ob, a, b, c⟩
    · exact .inl h
    · exact .inr ⟨ob, a, b, (hs.2 ob (ne c (Ne.symm h1))).trans c⟩
  · rcases W.ev with h | ⟨ob, a, b, c⟩
    · exact .inl h
    · exact .inr ⟨ob, a, b, (hs.2 ob (ne c (Ne.symm h2))).trans c⟩
  · rcases W.fs p hp with h | ⟨ob, a, b, c⟩
    · exact .inl h
    · exact .inr ⟨ob, a, b, (hs.2 ob (ne c (Ne.symm h3))).trans c⟩
theorem WkI.new {n0 w : Nat} {g g' : Hp} {ms : List Mrk} {ts : List Tal} {evs : List (Ev × D)} {dm dt de : D} (W : WkI n0 w g ms ts evs dm dt de) (hl : g.length ≤ g'.length) (hk : ∀ q, q < g.length → g'[q]? = g[q]?) : WkI n0 w g' ms ts evs dm dt de := by
  have lt : ∀ {q : Nat} {ob : Ob}, g[q]? = some ob → q < g.length := fun hq => (List.getElem?_eq_some_iff.1 hq).1
  refine ⟨by have := W.len; omega, W.wn, (hk w (lt W.row)).trans W.row, ?_, W.tl.imp id fun ⟨ob, a, b, c⟩ => ⟨ob, a, b, (hk ob (lt c)).trans c⟩, ?_, fun p hp => ?_, W.ma, W.ta⟩
  · rcases W.mr with h | ⟨ob, a, b, c⟩
    · exact .inl h
    · exact .inr ⟨ob, a, b, (hk ob (lt c)).trans c⟩
  · rcases W.ev with h | ⟨ob, a, b, c⟩
    · exact .inl h
    · exact .inr ⟨ob, a, b, (hk ob (lt c)).trans c⟩
  · rcases W.fs p hp with h | ⟨ob, a, b, c⟩
    · exact .inl h
    · exact .inr ⟨ob, a, b, (hk ob (lt c)).trans c⟩
theorem WkI.chg0 {n0 w : Nat} {g g' : Hp} {ms : List Mrk} {ts : List Tal} {evs : List (Ev × D)} {dm dt de : D} (W : WkI n0 w g ms ts evs dm dt de) {z T sz : Nat} {rows : List (List D)} (hz : g[z]? = some (.row T sz rows)) (h1 : T ≠ ty1006) (h2 : T ≠ ty31) (h3 : T ≠ ty109) (h4 : T ≠ ty106) (hs : Same z g g')
    (hw : g'[w]? = some (.row ty1073 3 [[dm, dt, de]])) : WkI n0 w g' ms ts evs dm dt de :=
  W.chg hz h1 h2 h3 hs hw (W.tl.imp id fun ⟨ob, a, b, c⟩ => ⟨ob, a, b, (hs.2 ob (row_ne c hz (Ne.symm h4))).trans c⟩) W.ta
def dupR : Str := [42]
/-- What becomes of an item: a gap, a repetition, or it is taken but for some lines. -/
def tkO (mk : Int) (i : It) : Option (Option Nat) :=
  if i.e.a3 ≤ mk then some none
  else if mk < i.e.a2 then none
  else if i.e.a2 < mk then (if idx (fun l : Lin => decide (l.off = mk)) 0 i.e.ls < 1 then none else some (some (idx (fun l : Lin => decide (l.off = mk)) 0 i.e.ls).toNat))
  else some (some 0)
theorem fnd0 (l : List Mrk) (hst fil to_ : Int) : (match l[kM ⟨hst, fil, 0⟩ l]? with | some x => decide (cmpM x ⟨hst, fil, 0⟩ = 0) | none => false) = fndM l ⟨hst, fil, to_⟩ := by
  unfold fndM
  rw [kM_key ⟨hst, fil, to_⟩ ⟨hst, fil, 0⟩ rfl rfl]
  cases l[kM ⟨hst, fil, 0⟩ l]? with
  | none => rfl
  | some x => simp only; rw [cmpM_key x ⟨hst, fil, to_⟩ ⟨hst, fil, 0⟩ rfl rfl]
theorem lim1006 {n : Nat} (hn : n ≤ 1000001) : lim n ti1006.by_ = true := lim_ok (by have : ti1006.by_ = 24 := rfl; rw [this]; omega) (by omega)
/-- The mark of a file is set. -/
theorem mark_wp {n0 w : Nat} {g : Hp} {ms : List Mrk} {ts : List Tal} {evs : List (Ev × D)} {dm dt de : D} (W : WkI n0 w g ms ts evs dm dt de) (hl : ms.length ≤ 100000) (hst fil to_ : Int) {z : Nat} {j : It} (hz : g[z]? = some (.row ty74 11 [itr j])) {β : Type} {f : Hp → Option β} {E : Out → Ex → Option β} {Q : β → Prop}
    (k : ∀ g' dm', WkI n0 w g' (setM ms ⟨hst, fil, to_⟩) ts evs dm' dt de → g'[z]? = some (.row ty74 11 [itr j]) → g.length ≤ g'.length → (∀ q, q < n0 → g'[q]? = g[q]?) → Wp (f g') Q) :
    Wp ((R fn1013 [dm, .int .i64 hst, .int .i64 fil] g).bind fun p81 => (dExtract 0 p81.1).bind fun t82 => (dExtract 1 p81.1).bind fun t83 => (dUn .not t83).bind fun t85 =>
      (dIf t85
        ((dLoad tab p81.2 ty1007 (.ptr w 0 0)).bind fun t91 => (dBuild tab ty1006 [0, 1] [.int .i64 hst, .int .i64 fil]).bind fun t95 => (pLitF tab ty1007 1 [0] [t95]).bind fun t96 => (R fn1098 [t91, t82, t96] p81.2).bind fun p97 => (dStore tab p97.2 ty1007 (.ptr w 0 0) p97.1).bind fun h' => some (Ex.nrm, ([] : List D), h'))
        (some (Ex.nrm, ([] : List D), p81.2))).bind fun r => toEnd r.1
          ((dLoad tab r.2.2 ty1007 (.ptr w 0 0)).bind fun t105 => (dIndexAddr tab ty1007 t105 t82).bind fun t108 => (dFieldAddr tab ty1006 2 t108).bind fun t109 => (dStore tab r.2.2 ty3 t109 (.int .i64 to_)).bind f) (E r)) Q := by
  have hk := kM_le ⟨hst, fil, 0⟩ ms
  have h13 : R fn1013 [dm, .int .i64 hst, .int .i64 fil] g = some (.tup [.int .i64 (kM ⟨hst, fil, 0⟩ ms : Nat), .bool (fndM ms ⟨hst, fil, to_⟩)], g) :=
    (s1013r ms dm hst fil g W.mr.rd (by omega) (kM ⟨hst, fil, 0⟩ ms) hk (kM_lt _ ms) (kM_ge _ ms W.ma)).trans (congrArg (fun b : Bool => some (D.tup [.int .i64 (kM ⟨hst, fil, 0⟩ ms : Nat), .bool b], g)) (fnd0 ms hst fil to_))
  have hkk : kM ⟨hst, fil, to_⟩ ms = kM ⟨hst, fil, 0⟩ ms := kM_key ⟨hst, fil, to_⟩ ⟨hst, fil, 0⟩ rfl rfl ms
  have hset : setM ms ⟨hst, fil, to_⟩ = if fndM ms ⟨hst, fil, to_⟩ = true then ms.set (kM ⟨hst, fil, 0⟩ ms) ⟨hst, fil, to_⟩ else ms.take (kM ⟨hst, fil, 0⟩ ms) ++ [⟨hst, fil, to_⟩] ++ ms.drop (kM ⟨hst, fil, 0⟩ ms) := by
    unfold setM; rw [hkk]
  have hfx : fndM ms ⟨hst, fil, to_⟩ = true → ∃ x, ms[kM ⟨hst, fil, 0⟩ ms]? = some x ∧ x.h = hst ∧ x.f = fil := by
    intro hf
    unfold fndM at hf
    rw [hkk] at hf
    cases hg : ms[kM ⟨hst, fil, 0⟩ ms]? with
    | none => rw [hg] at hf; cases hf
    | some x =>
      rw [hg] at hf
      have := (cmpM_eq x ⟨hst, fil, to_⟩).1 (by simpa [-Option.bind_some] using hf)
      exact ⟨x, rfl, this.1, this.2⟩
  have hasc := setM_asc ms ⟨hst, fil, to_⟩ W.ma
  have hlen := setM_len ms ⟨hst, fil, to_⟩
  generalize setM ms ⟨hst, fil, to_⟩ = ms' at hset hasc hlen k
  generalize fndM ms ⟨hst, fil, to_⟩ = fnd at h13 hset hfx
  generalize kM ⟨hst, fil, 0⟩ ms = kk at hk h13 hset hfx
  have hlw : ∀ {g' : Hp} {dm' : D}, g'[w]? = some (.row ty1073 3 [[dm', dt, de]]) → dLoad tab g' ty1007 (.ptr w 0 0) = some dm' := fun hq => by rw [ldp1007, row_of hq]; rfl
  have wl := (List.getElem?_eq_some_iff.1 W.row).1
  have zl := (List.getElem?_eq_some_iff.1 hz).1
  have hwz : w ≠ z := row_ne W.row hz (by decide)
  have hn0 := W.len
  have hwn := W.wn
  simp only [h13, bs, dExtract_tup, List.getElem?_cons_zero, List.getElem?_cons_succ, dUn_not]
  refine Wp.join (P := fun r => ∃ (dm' : D) (g2 : Hp) (ob : Nat) (L : List Mrk) (x : Mrk), r = (.nrm, [], g2) ∧ dm' = .msl 3 ob 0 L.length ∧ n0 ≤ ob ∧ g.length ≤ g2.length ∧ (∀ q, q < n0 → g2[q]? = g[q]?) ∧ g2[w]? = some (.row ty1073 3 [[dm', dt, de]]) ∧ (∀ (q T sz : Nat) (rows : List (List D)), g[q]? = some (Ob.row T sz rows) → T ≠ ty1006 → T ≠ ty1073 → g2[q]? = g[q]?) ∧ g2[ob]? = some (.row ty1006 3 (L.map mrkr)) ∧ L[kk]? = some x ∧ L.set kk ⟨x.h, x.f, to_⟩ = ms') ?_ ?_ ?_
  · intro hf
    have hf : fnd = false := by simpa [-Option.bind_some] using hf
    subst hf
    simp only [Bool.false_eq_true, if_false] at hset
    have hlt : (ms.take kk).length = kk := by simp [-Option.bind_some]; omega
    have hL : (ms.take kk ++ [(⟨hst, fil, 0⟩ : Mrk)] ++ ms.drop kk)[kk]? = some ⟨hst, fil, 0⟩ := by
      rw [List.append_assoc, List.getElem?_append_right (by omega), hlt]; simp [-Option.bind_some]
    have hsetL : (ms.take kk ++ [(⟨hst, fil, 0⟩ : Mrk)] ++ ms.drop kk).set kk ⟨hst, fil, to_⟩ = ms' := by
      rw [hset, List.append_assoc, List.set_append_right _ _ (by omega), hlt]; simp [-Option.bind_some]
    have hlenL : (ms.take kk ++ [(⟨hst, fil, 0⟩ : Mrk)] ++ ms.drop kk).length = ms.length + 1 := by simp [-Option.bind_some]; omega
    have hmap : (ms.take kk ++ [(⟨hst, fil, 0⟩ : Mrk)] ++ ms.drop kk).map mrkr = (ms.map mrkr).take kk ++ [[.int .i64 hst, .int .i64 fil, .int .i64 0]] ++ (ms.map mrkr).drop kk := by
      rw [List.map_append, List.map_append, List.map_take, List.map_drop]; rfl
    have hz3 : ti1006.sz = 3 := rfl
    have hlim : lim (ms.length + 1) ti1006.by_ = true := lim1006 (by omega)
    have hlim1 : lim 1 ti1006.by_ = true := lim1006 (by omega)
    have hbd : dBuild tab ty1006 [0, 1] [.int .i64 hst, .int .i64 fil] = some (.agg [.int .i64 hst, .int .i64 fil, .int .i64 0]) := id rfl
    simp only [hlw W.row, hbd, bs1007_1, bs, xins1098]
    rcases W.mr with ⟨hms, hdd⟩ | ⟨ob, hob, hdm, ho⟩
    · subst hms
      have hk0 : kk = 0 := by simpa [-Option.bind_some] using hk
      subst hk0
      have hi : dIns ty1006 ti1006 [dm, .int .i64 ((0 : Nat) : Int), .sl 3 true [[.int .i64 hst, .int .i64 fil, .int .i64 0]]] g = some (.msl 3 g.length 0 1, dNew g ty1006 3 [[.int .i64 hst, .int .i64 fil, .int .i64 0]]) := by
        rcases hdd with rfl | rfl <;> simp [-Option.bind_some, dIns, hz3, hlim1]
      rw [hi]
      simp only [bs]
      refine wst1007 (off := 0) ((dNew_old _ _ _ _ wl).trans W.row) rfl rfl (by simp [-Option.bind_some]) rfl fun g3 q3 s3 => ?_
      replace q3 : g3[w]? = some (.row ty1073 3 [[.msl 3 g.length 0 1, dt, de]]) := q3
      have gl : (dNew g ty1006 3 [[.int .i64 hst, .int .i64 fil, .int .i64 0]]).length = g.length + 1 := by simp [-Option.bind_some, dNew]
      refine .some ⟨_, g3, g.length, [⟨hst, fil, 0⟩], ⟨hst, fil, 0⟩, rfl, rfl, hn0, by rw [s3.1, gl]; omega, fun q hq => (s3.2 q (by omega)).trans (dNew_old _ _ _ _ (by omega)), q3, fun q T sz rows hq h1 h2 => ?_, (s3.2 _ (by omega)).trans (dNew_get _ _ _ _), rfl, by simpa [-Option.bind_some] using hsetL⟩
      exact (s3.2 q (row_ne hq W.row h2)).trans (dNew_old _ _ _ _ (List.getElem?_eq_some_iff.1 hq).1)
    · have hkl : (kk : Int) ≤ (ms.length : Int) := by omega
      have hi : dIns ty1006 ti1006 [dm, .int .i64 (kk : Int), .sl 3 true [[.int .i64 hst, .int .i64 fil, .int .i64 0]]] g = some (.msl 3 g.length 0 (ms.length + 1), dNew (g.set ob .dead) ty1006 3 ((ms.map mrkr).take kk ++ [[.int .i64 hst, .int .i64 fil, .int .i64 0]] ++ (ms.map mrkr).drop kk)) := by
        subst hdm
        simp [-Option.bind_some, dIns, hz3, hlim, ho, hkl]
      rw [hi]
      simp only [bs]
      have hwo : w ≠ ob := row_ne W.row ho (by decide)
      have old : ∀ q, q < g.length → q ≠ ob → (dNew (g.set ob .dead) ty1006 3 ((ms.map mrkr).take kk ++ [[.int .i64 hst, .int .i64 fil, .int .i64 0]] ++ (ms.map mrkr).drop kk))[q]? = g[q]? := fun q hq hn => by
        rw [dNew_old _ _ _ _ (by simpa [-Option.bind_some] using hq), List.getElem?_set_ne (Ne.symm hn)]
      refine wst1007 (off := 0) ((old w wl hwo).trans W.row) rfl rfl (by simp [-Option.bind_some]) rfl fun g3 q3 s3 => ?_
      replace q3 : g3[w]? = some (.row ty1073 3 [[.msl 3 g.length 0 (ms.length + 1), dt, de]]) := q3
      have gl : (dNew (g.set ob .dead) ty1006 3 ((ms.map mrkr).take kk ++ [[.int .i64 hst, .int .i64 fil, .int .i64 0]] ++ (ms.map mrkr).drop kk)).length = g.length + 1 := by simp [-Option.bind_some, dNew]
      have hnew := dNew_get (g.set ob .dead) ty1006 3 ((ms.map mrkr).take kk ++ [[.int .i64 hst, .int .i64 fil, .int .i64 0]] ++ (ms.map mrkr).drop kk)
      rw [List.length_set, ← hmap] at hnew
      refine .some ⟨_, g3, g.length, ms.take kk ++ [⟨hst, fil, 0⟩] ++ ms.drop kk, ⟨hst, fil, 0⟩, rfl, by rw [hlenL], hn0, by rw [s3.1, gl]; omega, fun q hq => (s3.2 q (by omega)).trans (old q (by omega) (by omega)), q3, fun q T sz rows hq h1 h2 => ?_, (s3.2 _ (by omega)).trans (by rw [← hmap]; exact hnew), hL, hsetL⟩
      exact (s3.2 q (row_ne hq W.row h2)).trans (old q (List.getElem?_eq_some_iff.1 hq).1 (row_ne hq ho h1))
  · intro hf
    have hf : fnd = true := by simpa [-Option.bind_some] using hf
    subst hf
    obtain ⟨x, hx, hx1, hx2⟩ := hfx rfl
    simp only [if_true] at hset
    rcases W.mr with ⟨hms, _⟩ | ⟨ob, hob, hdm, ho⟩
    · subst hms; simp [-Option.bind_some] at hx
    · exact .some ⟨dm, g, ob, ms, x, rfl, hdm, hob, Nat.le_refl _, fun _ _ => rfl, W.row, fun _ _ _ _ _ _ _ => rfl, ho, hx, by rw [hx1, hx2, hset]⟩
  rintro _ ⟨dm', g2, ob, L, x, rfl, rfl, hob, hl2, hb2, hw2, hk2, ho, hx, hfin⟩
  have hkL : kk < L.length := (List.getElem?_eq_some_iff.1 hx).1
  have hkl2 : (0 : Int) ≤ (kk : Int) ∧ (kk : Int) < (L.length : Int) := by omega
  have hr : (L.map mrkr)[kk]? = some (mrkr x) := by rw [List.getElem?_map, hx]; rfl
  simp only [toEnd_nrm, hlw hw2, bs, ixm1007, hkl2, and_self, if_true, fap1006_2, Int.toNat_natCast, Nat.zero_add]
  refine wst3 (off := 2) ho hr rfl (by simp [-Option.bind_some, mrkr]) rfl fun g3 q3 s3 => ?_
  have hset3 : (L.map mrkr).set kk (spl (mrkr x) 2 (cells1 (.int .i64 to_))) = ms'.map mrkr := by
    rw [← hfin, List.map_set]; rfl
  rw [hset3] at q3
  have hlenL : L.length = ms'.length := by rw [← hfin]; simp [-Option.bind_some]
  have hwo : w ≠ ob := row_ne hw2 ho (by decide)
  have kp : ∀ (q T sz : Nat) (rows : List (List D)), g[q]? = some (Ob.row T sz rows) → T ≠ ty1006 → T ≠ ty1073 → g3[q]? = g[q]? := fun q T sz rows hq h1 h2 => by
    have e := hk2 q T sz rows hq h1 h2
    exact (s3.2 q (row_ne (e.trans hq) ho h1)).trans e
  refine k g3 _ ⟨by have := s3.1; omega, hwn, (s3.2 w hwo).trans hw2, .inr ⟨ob, hob, by rw [hlenL], q3⟩, W.tl.imp id fun ⟨ob', a, b, c⟩ => ⟨ob', a, b, (kp _ _ _ _ c (by decide) (by decide)).trans c⟩, ?_, fun p hp => ?_, hasc, W.ta⟩ ((kp z _ _ _ hz (by decide) (by decide)).trans hz) (by have := s3.1; omega) (fun q hq => (s3.2 q (by omega)).trans (hb2 q hq))
  · rcases W.ev with h | ⟨ob', a, b, c⟩
    · exact .inl h
    · exact .inr ⟨ob', a, b, (kp _ _ _ _ c (by decide) (by decide)).trans c⟩
  · rcases W.fs p hp with h | ⟨ob', a, b, c⟩
    · exact .inl h
    · exact .inr ⟨ob', a, b, (kp _ _ _ _ c (by decide) (by decide)).trans c⟩
/-- The event of an item that is stored. -/
def evLd (e : Ev) (d : D) (hd : SlOf 3 linr e.ls d) : Ev := { e with ld := d, hld := hd }
/-- An event that is new, behind those before. -/
theorem ev_wp {n0 w : Nat} {g : Hp} {ms : List Mrk} {ts : List Tal} {evs : List (Ev × D)} {dm dt de : D} (W : WkI n0 w g ms ts evs dm dt de) (hle : evs.length ≤ 100000) {z : Nat} {j : It} (hz : g[z]? = some (.row ty74 11 [itr j])) (hn : j.e.ls.length ≤ 1000) (hf : j.e.fs.length ≤ 1000) {β : Type} {f : D → Hp → Option β} {Q : β → Prop}
    (k : ∀ g' p de' d hd x, WkI n0 w g' ms ts (evs ++ [(evLd j.e d hd, x)]) dm dt de' → g.length ≤ g'.length → (∀ q, q < n0 → g'[q]? = g[q]?) → Wp (f p g') Q) :
    Wp ((dFieldAddr tab ty74 1 (.ptr z 0 0)).bind fun t122 =>
    (dLoad tab g ty31 t122).bind fun t123 =>
    (some ((.ptr g.length 0 0 : D), dNew g ty31 10 [[.int .i64 0, .int .i64 0, .int .i64 0, .int .i64 0, .nils, .int .i64 0, .int .i64 0, .str [], .str [], .nils]])).bind fun p14 =>
    ((dStore tab p14.2 ty31 p14.1 t123).bind fun h' => some ((.und : D), h')).bind fun p903 =>
    (dFieldAddr tab ty31 4 p14.1).bind fun t124 =>
    (dLoad tab p903.2 ty28 t124).bind fun t125 =>
    (R fn1008 [t125] p903.2).bind fun p126 =>
    (dFieldAddr tab ty31 9 p14.1).bind fun t127 =>
    (dLoad tab p126.2 ty29 t127).bind fun t128 =>
    (R fn1009 [t128] p126.2).bind fun p129 =>
    (dFieldAddr tab ty31 4 p14.1).bind fun t130 =>
    chk (dLoad tab p903.2 ty29 t127 = some t128)
    (((dStore tab p129.2 ty28 t130 p126.1).bind fun h' => some ((.und : D), h')).bind fun p907 =>
    (dFieldAddr tab ty31 9 p14.1).bind fun t131 =>
    ((dStore tab p907.2 ty29 t131 p129.1).bind fun h' => some ((.und : D), h')).bind fun p909_1 =>
    (dFieldAddr tab ty1073 1 (.ptr w 0 0)).bind fun t135 =>
    (dLoad tab p909_1.2 ty40 t135).bind fun t136 =>
    (dLoad tab p909_1.2 ty31 p14.1).bind fun t137 =>
    (pLitF tab ty40 1 [0] [t137]).bind fun t138 =>
    (dAppend tab p909_1.2 ty40 ty40 t136 t138).bind fun p139 =>
    (dFieldAddr tab ty1073 1 (.ptr w 0 0)).bind fun t141 =>
    ((dStore tab p139.2 ty40 t141 p139.1).bind fun h' => some ((.und : D), h')).bind fun p910 =>
    f p14.1 p910.2)) Q := by
  have wl := (List.getElem?_eq_some_iff.1 W.row).1
  have hn0 := W.len
  have hwn := W.wn
  have hld : dLoad tab g ty31 (.ptr z 0 (0 + 1)) = some (.agg (evr j.e)) := by rw [ldp31, row_of hz]; rfl
  have hz5 : ∀ r0 r1 r2 r3 : D, True := fun _ _ _ _ => trivial
  generalize hZ : ([.int .i64 0, .int .i64 0, .int .i64 0, .int .i64 0, .nils, .int .i64 0, .int .i64 0, .str [], .str [], .nils] : List D) = Z
  have hZl : Z.length = 10 := by subst hZ; rfl
  simp only [fap74_1, hld, bs, Option.bind_assoc]
  have hold : ∀ q, q < g.length → (dNew g ty31 10 [Z])[q]? = g[q]? := fun q hq => dNew_old _ _ _ _ hq
  have hpp : (dNew g ty31 10 [Z])[g.length]? = some (.row ty31 10 [Z]) := dNew_get _ _ _ _
  have hpl : (dNew g ty31 10 [Z]).length = g.length + 1 := by simp [-Option.bind_some, dNew]
  generalize dNew g ty31 10 [Z] = g1 at hold hpp hpl
  have W1 := W.new (g' := g1) (by omega) hold
  generalize hP : List.length g = P at hpp hpl
  have hwP : w ≠ P := by omega
  have evo : ∀ {q : Nat} {rows : List (List D)}, g[q]? = some (.row ty31 10 rows) → q ≠ P := fun hq => by have := (List.getElem?_eq_some_iff.1 hq).1; omega
  have dob : ¬ de.inOb P := fun hh => by have := (W.ev.lt hh).2; omega
  have hokv : (D.agg (evr j.e)).okv = true := by
    have o1 := slof_one j.e.hld
    have o2 := slof_one j.e.hfd
    have o3 : D.agg (evr j.e) = .agg [.int .i64 j.e.a0, .int .i64 j.e.a1, .int .i64 j.e.a2, .int .i64 j.e.a3, j.e.ld, .int .i64 j.e.a5, .int .i64 j.e.a6, .str j.e.s7, .str j.e.s8, j.e.fd] := rfl
    rw [o3]
    generalize j.e.ld = a at o1
    generalize j.e.fd = b at o2
    cases a <;> first | (cases b <;> first | rfl | (simp [-Option.bind_some, D.one] at o2)) | (simp [-Option.bind_some, D.one] at o1)
  refine wst31 hpp (by rfl) (by rfl) (by rw [hZl]; exact Nat.le_refl _) hokv fun g2 q2 s2 => ?_
  replace q2 : g2[P]? = some (.row ty31 10 [[.int .i64 j.e.a0, .int .i64 j.e.a1, .int .i64 j.e.a2, .int .i64 j.e.a3, j.e.ld, .int .i64 j.e.a5, .int .i64 j.e.a6, .str j.e.s7, .str j.e.s8, j.e.fd]]) := by
    rw [q2]; subst hZ; rfl
  obtain ⟨y1, h1, hy1⟩ := s1008 j.e.ls j.e.ld g2 j.e.hld (by omega)
  obtain ⟨y2, g3, h2, hl3, hb3, hy2⟩ := u1009 j.e.fs j.e.fd g2 j.e.hfd (by omega)
  have l4 : dLoad tab g2 ty28 (.ptr P 0 (0 + 4)) = some j.e.ld := by rw [ldp28, row_of q2]; rfl
  have l9 : dLoad tab g2 ty29 (.ptr P 0 (0 + 9)) = some j.e.fd := by rw [ldp29, row_of q2]; rfl
  simp only [bs, fap31_4, fap31_9, l4, h1, l9, h2]
  refine Wp.chk trivial ?_
  have hPl2 := (List.getElem?_eq_some_iff.1 q2).1
  have q3 := (hb3 P hPl2).trans q2
  have oc1 := one_cells (slof_one hy1)
  refine wst28 q3 (by rfl) (by rw [oc1.1]; rfl) (by simp [-Option.bind_some]) oc1.2 fun g4 q4 s4 => ?_
  rw [oc1.1] at q4
  try simp only [bs]
  have hlv : LvF g3 g2.length j.e.fs y2 := hy2
  have oc2 := one_cells hlv.one
  refine wst29 q4 (by rfl) (by rw [oc2.1]; rfl) (by simp [-Option.bind_some, spl]) oc2.2 fun g5 q5 s5 => ?_
  rw [oc2.1] at q5
  replace q5 : g5[P]? = some (.row ty31 10 [evl (evLd j.e y1 hy1, y2)]) := q5
  have hP5 : ∀ q, q ≠ P → q < g2.length → g5[q]? = g1[q]? := fun q hq hlt => (s5.2 q hq).trans ((s4.2 q hq).trans ((hb3 q hlt).trans (s2.2 q hq)))
  have hg2 : g2.length = P + 1 := by rw [s2.1, hpl]
  have hg5 : g5.length = g3.length := by rw [s5.1, s4.1]
  have hlv5 : LvF g5 n0 j.e.fs y2 := by
    rcases hlv with h | ⟨ob, a, b, c⟩
    · exact .inl h
    · exact .inr ⟨ob, by omega, b, (s5.2 ob (by omega)).trans ((s4.2 ob (by omega)).trans c)⟩
  have W5 : WkI n0 w g5 ms ts evs dm dt de := W.new (by omega) fun q hq => (hP5 q (by omega) (by omega)).trans (hold q (by omega))
  have lw : dLoad tab g5 ty40 (.ptr w 0 (0 + 2)) = some de := by rw [ldp40, row_of W5.row]; rfl
  have lP : dLoad tab g5 ty31 (.ptr P 0 0) = some (.agg (evl (evLd j.e y1 hy1, y2))) := by
    rw [ldp31, row_of q5]; rfl
  have hbs : pLitF tab ty40 1 [0] [.agg (evl (evLd j.e y1 hy1, y2))] = some (.sl 10 true [evl (evLd j.e y1 hy1, y2)]) := id rfl
  simp only [bs, fap1073_1, lw, lP, hbs]
  refine wap40 W5.len W5.ev (rowsOf_sl _ _ _ _) (by simp [-Option.bind_some]; omega) fun x' g6 ow len6 bel6 keep6 fre6 => ?_
  try simp only [bs]
  have hw5 := (List.getElem?_eq_some_iff.1 W5.row).1
  have oc3 := one_cells (own_one ow)
  have hdw : ¬ de.inOb w := own_ne W5.ev W5.row (by decide)
  refine wst40 ((keep6 w hw5 hdw).trans W5.row) (by rfl) (by rw [oc3.1]; rfl) (by simp [-Option.bind_some]) oc3.2 fun g7 q7 s7 => ?_
  rw [oc3.1] at q7
  replace q7 : g7[w]? = some (.row ty1073 3 [[dm, dt, x']]) := q7
  try simp only [bs]
  have kp : ∀ (q T sz : Nat) (rows : List (List D)), g5[q]? = some (Ob.row T sz rows) → T ≠ ty31 → T ≠ ty1073 → g7[q]? = g5[q]? := fun q T sz rows hq t1 t2 =>
    (s7.2 q (row_ne hq W5.row t2)).trans (keep6 q (List.getElem?_eq_some_iff.1 hq).1 (own_ne W5.ev hq (Ne.symm t1)))
  refine k g7 _ x' y1 hy1 y2 ⟨by have := s7.1; have := W5.len; omega, hwn, q7, ?_, W5.tl.imp id fun ⟨ob, a, b, c⟩ => ⟨ob, a, b, (kp _ _ _ _ c (by decide) (by decide)).trans c⟩, ?_, fun p hp => ?_, W.ma, W.ta⟩ (by have := s7.1; omega) (fun q hq => (s7.2 q (by omega)).trans ((bel6 q hq).trans ((hP5 q (by omega) (by omega)).trans (hold q (by omega)))))
  · rcases W5.mr with h | ⟨ob, a, b, c⟩
    · exact .inl h
    · exact .inr ⟨ob, a, b, (kp _ _ _ _ c (by decide) (by decide)).trans c⟩
  · rw [List.map_append]
    rcases ow with h | ⟨ob, a, b, c⟩
    · exact .inl h
    · exact .inr ⟨ob, a, b, (s7.2 ob (by
        have hw6 := (keep6 w hw5 hdw).trans W5.row
        exact row_ne c hw6 (by decide))).trans c⟩
  · have kk : ∀ {l : List (Str × Str)} {d : D}, LvF g5 n0 l d → LvF g7 n0 l d := fun hd => by
      rcases hd with h | ⟨ob, a, b, c⟩
      · exact .inl h
      · exact .inr ⟨ob, a, b, (kp _ _ _ _ c (by decide) (by decide)).trans c⟩
    rcases List.mem_append.1 hp with hp | hp
    · exact kk (W5.fs p hp)
    · simp only [List.mem_singleton] at hp
      subst hp
      exact kk hlv5
theorem wpConv {α : Type} {x y : Option α} {Q : α → Prop} (h : x = y) (hx : Wp x Q) : Wp y Q := h ▸ hx
/-- What taking an item leaves. -/
def TkPost (n0 w : Nat) (ms : List Mrk) (ts : List Tal) (evs : List (Ev × D)) (dm dt de : D) (i : It) (b : Bool) (g' : Hp) : Prop :=
  match tkO (markOf ms i.e.a0 i.e.a1) i with
  | none => b = false
  | some none => b = true ∧ ∃ dt', WkI n0 w g' ms (addT ts i.e.a0 dupR i.e.ls.length) evs dm dt' de
  | some (some k) => b = true ∧ ∃ j dm' dt' de' evs', CutOf i (markOf ms i.e.a0 i.e.a1) k j ∧ WkI n0 w g' (setM ms ⟨i.e.a0, i.e.a1, i.e.a3⟩) (addT (addT ts i.e.a0 dupR k) i.e.a0 i.r j.e.ls.length) evs' dm' dt' de' ∧
      if i.r = [] then ∃ d hd x, evs' = evs ++ [(evLd j.e d hd, x)] else evs' = evs
end Go.Proofs.YtpenlmgmofhbpaaDoor
