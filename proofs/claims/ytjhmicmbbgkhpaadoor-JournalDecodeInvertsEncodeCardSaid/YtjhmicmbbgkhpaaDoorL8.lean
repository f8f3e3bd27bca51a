/- Laws, on plain data, about functions that the statement reaches. -/
import Derived.Test.YtjhmicmbbgkhpaaDoorL7
set_option linter.unusedSimpArgs false
set_option linter.unusedVariables false
set_option linter.unnecessarySimpa false
set_option maxRecDepth 100000
namespace Go.Proofs.YtjhmicmbbgkhpaaDoor
open Go.Eng Go.Pi
theorem s1129 (l : List Int) (d : D) (c : Int) (h : Hp) (hd : SlOf 1 byr l d) (hl : l.length ≤ 1000000000) (hu : ∀ z ∈ l, U8 z)
    (hck : ∀ j : It, riOf j = visI ((l.take (num (l.take 4)).toNat).drop 4, false) → ∀ g, R fn1042 [.agg (itr j)] g = some (.int .i64 c, g)) :
    ∃ j : It, R fn1129 [d] h = some (.tup [.agg (itr j), .int .i64 (decZ c l).2.1, .int .i64 (decZ c l).1], h) ∧ riOf j = (decZ c l).2.2 := by
  suffices Wp (R fn1129 [d] h) (fun p => p.2 = h ∧ ∃ j : It, p.1 = .tup [.agg (itr j), .int .i64 (decZ c l).2.1, .int .i64 (decZ c l).1] ∧ riOf j = (decZ c l).2.2) by
    obtain ⟨⟨x, h'⟩, h1, rfl, j, rfl, h2⟩ := this
    exact ⟨j, h1, h2⟩
  have hz74 : ([.str [], .int .i64 0, .int .i64 0, .int .i64 0, .int .i64 0, .nils, .int .i64 0, .int .i64 0, .str [], .str [], .nils] : List D) = itr zit := rfl
  have hbz : dBuild tab ty74 [] [] = some (.agg (itr zit)) := id rfl
  -- a way out with an error: the result's variable is stored to and read
  have out : ∀ (g : Hp) (row : List D) (a b : Int), g[h.length]? = some (.row ty74 11 [row]) → row.length = 11 → h.length ≤ g.length → (∀ q, q < h.length → g[q]? = h[q]?) → (a, b, riOf zit) = ((decZ c l).2.1, (decZ c l).1, (decZ c l).2.2) →
      Wp ((dStore tab g ty74 (.ptr h.length 0 0) (.agg (itr zit))).bind fun h' => (dLoad tab h' ty74 (.ptr h.length 0 0)).bind fun d => scope h h' (mkRes [d, .int .i64 a, .int .i64 b])) (fun p => p.2 = h ∧ ∃ j : It, p.1 = .tup [.agg (itr j), .int .i64 (decZ c l).2.1, .int .i64 (decZ c l).1] ∧ riOf j = (decZ c l).2.2) := by
    intro g row a b hg hr hgl hgb he
    injection he with he1 he2
    injection he2 with he2 he3
    refine wst74 hg (by rfl) (by rfl) (by rw [hr]; exact Nat.le_refl _) (by rfl) fun g' h' s' => ?_
    have h' : g'[h.length]? = some (.row ty74 11 [itr zit]) := by
      rw [h']
      have hs : spl row 0 (cells1 (.agg (itr zit))) = itr zit := by
        have h11 : (itr zit).length = 11 := rfl
        simp [-Option.bind_some, spl, cells1, hr, h11]
      rw [hs]; rfl
    have ld : dLoad tab g' ty74 (.ptr h.length 0 0) = some (.agg (itr zit)) := by rw [ldp74, row_of h']; rfl
    rw [ld]
    simp only [bs, mkRes_3]
    rw [dec_end (by rw [s'.1]; exact hgl) (fun q hq => by rw [s'.2 q (by omega)]; exact hgb q hq)]
    exact .some ⟨rfl, zit, by rw [he1, he2], he3⟩
  rw [e1129]
  simp only [F1129, hz74, bs, Option.bind_assoc, lens22 hd, dBin_lss, hbz]
  have hp2 : (dNew h ty74 11 [itr zit])[h.length]? = some (.row ty74 11 [itr zit]) := dNew_get _ _ _ _
  have hq2 : ∀ q, q < h.length → (dNew h ty74 11 [itr zit])[q]? = h[q]? := fun q hq => dNew_old _ _ _ _ hq
  have hl2 : (dNew h ty74 11 [itr zit]).length = h.length + 1 := by simp [-Option.bind_some, dNew]
  generalize dNew h ty74 11 [itr zit] = g1 at *
  refine Wp.dif ?_ ?_
  · intro h0
    have h0 : l.length < 4 := by have : (l.length : Int) < 4 := by simpa [-Option.bind_some] using h0
                                 omega
    have hz : decZ c l = (14, 0, ⟨[], 0, 0, 0, 0, [], 0, 0, [], [], []⟩) := by unfold decZ; rw [if_pos h0]
    exact out g1 _ 0 14 hp2 rfl (by omega) hq2 (by rw [hz, zit_ri])
  intro h0
  have h0 : ¬ l.length < 4 := by have : ¬ (l.length : Int) < 4 := by simpa [-Option.bind_some] using h0
                                 omega
  obtain ⟨d4, e4, s4'⟩ := slh22 hd (k := .i64) (n := 4) (by omega) (by omega)
  have s4' : SlOf 1 byr (l.take 4) d4 := s4'
  have hl4 : (l.take 4).length = 4 := by simp [-Option.bind_some]; omega
  have hu4 : ∀ z ∈ l.take 4, U8 z := fun z hz => hu z (List.mem_of_mem_take hz)
  have e14 := s1136 _ d4 g1 s4' (by omega) hu4
  obtain ⟨n0, n1⟩ := num_range 4 _ hl4 hu4
  rw [p256_4] at n1
  have w5 : IntKind.wrap .i64 (num (l.take 4)) = num (l.take 4) := wrap_i64 (by omega) (by omega)
  have w6 : IntKind.wrap .i64 ((l.length : Int) - 4) = (l.length : Int) - 4 := wrap_i64 (by omega) (by omega)
  generalize hN : num (l.take 4) = N at *
  obtain ⟨n, rfl⟩ := Int.eq_ofNat_of_zero_le n0
  simp only [Int.toNat_natCast] at hck
  simp only [bs, e4, e14, cv1029_3, w5, dBin_lss, gd_bool]
  by_cases hbad : (n : Int) < 4 ∨ (l.length : Int) - 4 < (n : Int)
  · have hz : decZ c l = (14, 0, ⟨[], 0, 0, 0, 0, [], 0, 0, [], [], []⟩) := by unfold decZ; rw [if_neg h0, hN, if_pos hbad]
    by_cases c1 : (n : Int) < 4
    · simp only [c1, decide_true, reduceCtorEq, Bool.true_eq_false, if_false, bs, dPick_bool, if_true, dIf_bool]
      exact out g1 _ 0 14 hp2 rfl (by omega) hq2 (by rw [hz, zit_ri])
    · have c2 : (n : Int) > (l.length : Int) - 4 := by omega
      simp only [c1, decide_false, if_true, bs, lens22 hd, dBin_sub, w6, dBin_gtr, c2, decide_true, reduceCtorEq, Bool.true_eq_false, Bool.false_eq_true, if_false, dPick_bool, dIf_bool]
      exact out g1 _ 0 14 hp2 rfl (by omega) hq2 (by rw [hz, zit_ri])
  have c1 : ¬ (n : Int) < 4 := by omega
  have c2 : ¬ (n : Int) > (l.length : Int) - 4 := by omega
  simp only [c1, decide_false, if_true, bs, lens22 hd, dBin_sub, w6, dBin_gtr, c2, reduceCtorEq, Bool.true_eq_false, Bool.false_eq_true, if_false, dPick_bool, dIf_bool]
  obtain ⟨dn, en, sn⟩ := slh22 hd (k := .i64) (n := (n : Int)) (by omega) (by omega)
  rw [Int.toNat_natCast] at sn
  have e29 := s1135 (l.take n) dn g1 (.inl sn) (by simp [-Option.bind_some]; omega) (fun z hz => hu z (List.mem_of_mem_take hz))
  have w7 : IntKind.wrap .i64 ((n : Int) + 4) = ((n + 4 : Nat) : Int) := by rw [wrap_i64 (by omega) (by omega)]; omega
  obtain ⟨dc, ec, sc⟩ := cut2_by hd n (n + 4) (by omega) (by omega)
  have lc : (l.take (n + 4)).drop n = (l.drop n).take 4 := by rw [List.drop_take]; congr 1; omega
  rw [lc] at sc
  have e35 := s1136 _ dc g1 sc (by simp [-Option.bind_some]; omega) (fun z hz => hu z (List.mem_of_mem_drop (List.mem_of_mem_take hz)))
  simp only [en, e29, dBin_add, w7, ec, e35, bs, dBin_neq]
  refine Wp.dif ?_ ?_
  · intro h1
    have h1 : chkS (l.take n) ≠ num ((l.drop n).take 4) := by simpa [-Option.bind_some] using h1
    have hz : decZ c l = (15, 0, ⟨[], 0, 0, 0, 0, [], 0, 0, [], [], []⟩) := by unfold decZ; rw [if_neg h0, hN, if_neg hbad]; simp only [Int.toNat_natCast]; rw [if_pos h1]
    exact out g1 _ 0 15 hp2 rfl (by omega) hq2 (by rw [hz, zit_ri])
  intro h1
  have h1 : ¬ chkS (l.take n) ≠ num ((l.drop n).take 4) := by simpa [-Option.bind_some] using h1
  obtain ⟨db, eb, sb⟩ := cut2_by hd 4 n (by omega) (by omega)
  have eb : dSliceAt tab ty22 true true false [d, .int .i64 4, .int .i64 n] = some db := eb
  have hp6 : (dNew g1 ty74 11 [itr zit])[h.length + 1]? = some (.row ty74 11 [itr zit]) := by rw [← hl2]; exact dNew_get _ _ _ _
  have hp62 : (dNew g1 ty74 11 [itr zit])[h.length]? = some (.row ty74 11 [itr zit]) := by rw [dNew_old _ _ _ _ (by omega)]; exact hp2
  have hl6 : (dNew g1 ty74 11 [itr zit]).length = h.length + 2 := by simp [-Option.bind_some, dNew, hl2]
  have hq6 : ∀ q, q < h.length → (dNew g1 ty74 11 [itr zit])[q]? = h[q]? := fun q hq => by rw [dNew_old _ _ _ _ (by omega)]; exact hq2 q hq
  simp only [bs, hl2]
  generalize dNew g1 ty74 11 [itr zit] = g2 at *
  have hbc : dBuild tab ty1106 [0] [db] = some (.agg [db, .bool false]) := bd1106_0 db (slof_one sb)
  simp only [eb, hbc, bs, wBox_agg ty1106 2 g2 [db, .bool false] rfl (by omega), hl6]
  have hc0 : (dNew g2 ty1106 2 [[db, .bool false]])[h.length + 2]? = some (.row ty1106 2 [[db, .bool false]]) := by rw [← hl6]; exact dNew_get _ _ _ _
  have hi0 : (dNew g2 ty1106 2 [[db, .bool false]])[h.length + 1]? = some (.row ty74 11 [itr zit]) := by rw [dNew_old _ _ _ _ (by omega)]; exact hp6
  have hr0 : (dNew g2 ty1106 2 [[db, .bool false]])[h.length]? = some (.row ty74 11 [itr zit]) := by rw [dNew_old _ _ _ _ (by omega)]; exact hp62
  have hq0 : ∀ q, q < h.length + 1 → (dNew g2 ty1106 2 [[db, .bool false]])[q]? = g2[q]? := fun q hq => dNew_old _ _ _ _ (by omega)
  generalize dNew g2 ty1106 2 [[db, .bool false]] = g3 at *
  have V0 : ViS (h.length + 1) (h.length + 1) (h.length + 2) g2 g3 (itc [] 0 0 0 0 .nils 0 0 [] [] .nils) ((l.take n).drop 4, false) :=
    ⟨hi0, ⟨db, hc0, sb, fun z hz => hu z (List.mem_of_mem_take (List.mem_of_mem_drop hz)), by simp [-Option.bind_some]; omega⟩, hq0, by omega, by omega⟩
  refine v1133 V0 fun g4 ld fd V4 owL owF => ?_
  generalize hSt : (((l.take n).drop 4, false) : Cur) = st at *
  obtain ⟨dd, k1, k2, k3, k4⟩ := V4.hc
  obtain ⟨m1, m2⟩ := cu_ld k1
  have hr4 : g4[h.length]? = some (.row ty74 11 [itr zit]) := by rw [V4.lo h.length (by omega)]; exact hp62
  have hq4 : ∀ q, q < h.length → g4[q]? = h[q]? := fun q hq => by rw [V4.lo q (by omega)]; exact hq6 q hq
  have hl4' : h.length ≤ g4.length := by have := (List.getElem?_eq_some_iff.1 hr4).1; omega
  have ldi : dLoad tab g4 ty74 (.ptr (h.length + 1) 0 0) = some (.agg ((visI st).row ld fd)) := by rw [ldp74, row_of V4.hi]; rfl
  have hsl : st.1.length ≤ 1000000000 := by rw [← hSt]; simp [-Option.bind_some]; omega
  obtain ⟨hLl, hFl⟩ := visI_len st
  have hLl : (visI st).ls.length ≤ 9223372036854775807 := by omega
  have hFl : (visI st).fs.length ≤ 9223372036854775807 := by omega
  simp only [bs, nilCheck_ptr, fap1106_0, fap1106_1, m1, m2, gd_bool, lens22 k2]
  have hzd : ∀ x : Prop, decZ c l = if (visE st).2 = true ∨ 0 < (visE st).1.length ∨ c ≠ 0 then (1, 0, ⟨[], 0, 0, 0, 0, [], 0, 0, [], [], []⟩) else (0, 4 + (n : Int), visI st) := fun _ => by
    unfold decZ
    rw [if_neg h0, hN, if_neg hbad]
    simp only [Int.toNat_natCast]
    rw [if_neg h1, hSt]
  have hzd := hzd True
  cases hbd : (visE st).2 with
  | true =>
    have hz : decZ c l = (1, 0, ⟨[], 0, 0, 0, 0, [], 0, 0, [], [], []⟩) := by rw [hzd, if_pos (.inl hbd)]
    simp only [reduceCtorEq, Bool.true_eq_false, if_false, bs, dPick_bool, if_true, gd_bool, gdW_bool, dIf_bool]
    exact out g4 _ 0 1 hr4 rfl hl4' hq4 (by rw [hz, zit_ri])
  | false =>
    simp only [if_true, bs, nilCheck_ptr, fap1106_0, m1, lens22 k2, dBin_gtr]
    by_cases hlen : 0 < (visE st).1.length
    · have hz : decZ c l = (1, 0, ⟨[], 0, 0, 0, 0, [], 0, 0, [], [], []⟩) := by rw [hzd, if_pos (.inr (.inl hlen))]
      have hd1 : decide (((visE st).1.length : Int) > 0) = true := by simp only [decide_eq_true_eq]; omega
      simp only [hd1, reduceCtorEq, Bool.true_eq_false, Bool.false_eq_true, if_false, bs, dPick_bool, if_true, gd_bool, gdW_bool, dIf_bool]
      exact out g4 _ 0 1 hr4 rfl hl4' hq4 (by rw [hz, zit_ri])
    · have hd1 : decide (((visE st).1.length : Int) > 0) = false := by simp only [decide_eq_false_iff_not]; omega
      have sL := own_snap (n := 1) owL (fun a _ => linr_snap g4 1 a)
      have sF := own_snap (n := 1) owF (fun a _ => fld_snap g4 1 a)
      have hsn : snap g4 3 (.agg ((visI st).row ld fd)) = .agg (itr (mkIt (visI st) _ _ sL sF hLl hFl)) := rfl
      have hcall := hck (mkIt (visI st) _ _ sL sF hLl hFl) (mkIt_ri _ _ _ _ _ _ _) (g4.map fun _ => .dead)
      have hokv : (D.agg ((visI st).row ld fd)).okv = true := by
        clear hcall hsn sL sF V4 ldi
        rcases owL with ⟨rfl, _⟩ | ⟨_, _, rfl, _⟩ <;> rcases owF with ⟨rfl, _⟩ | ⟨_, _, rfl, _⟩ <;> rfl
      have hcB : callB R fn1042 [.agg ((visI st).row ld fd)] g4 = some (.int .i64 c, g4) := by
        unfold callB
        simp only [List.map_cons, List.map_nil, hsn, hcall]
        rfl
      simp only [hd1, if_true, Bool.false_eq_true, if_false, bs, dPick_bool, gd_bool, ldi, gdW_bool, hcB, dBin_neq]
      by_cases hc : c = 0
      · have hz : decZ c l = (0, 4 + (n : Int), visI st) := by
          rw [hzd, if_neg]
          rintro (hx | hx | hx)
          · rw [hbd] at hx; cases hx
          · exact hlen hx
          · exact hx hc
        rw [hc] at hz
        have w8 : IntKind.wrap .i64 (4 + (n : Int)) = 4 + (n : Int) := wrap_i64 (by omega) (by omega)
        simp only [hc, ne_eq, not_true, decide_false, dIf_bool, Bool.false_eq_true, if_false, bs, ldi, dBin_add, w8]
        refine wst74 (kk := 0) (off := 0) (row := itr zit) (v := .agg ((visI st).row ld fd)) hr4 (by rfl) (by rfl) (by exact Nat.le_refl _) hokv fun g5 h5 s5 => ?_
        have h5 : g5[h.length]? = some (.row ty74 11 [(visI st).row ld fd]) := h5
        have ld5 : dLoad tab g5 ty74 (.ptr h.length 0 0) = some (.agg ((visI st).row ld fd)) := by rw [ldp74, row_of h5]; rfl
        have owL5 : Own g5 (h.length + 1) ty78 3 ((visI st).ls.map linr) ld := owL.keep fun q hq _ => s5.2 q (by omega)
        have owF5 : Own g5 (h.length + 1) ty109 2 ((visI st).fs.map fld) fd := owF.keep fun q hq _ => s5.2 q (by omega)
        have fL := own_sl (n0 := h.length) (n := 1) owL5 (by omega) (fun a _ => linr_frz _ g5 1 a)
        have fF := own_sl (n0 := h.length) (n := 1) owF5 (by omega) (fun a _ => fld_frz _ g5 1 a)
        simp only [ld5, bs, mkRes_3]
        rw [scope_eq (d' := .tup [.agg (itr (mkIt (visI st) _ _ fL fF hLl hFl)), .int .i64 (4 + (n : Int)), .int .i64 0]) rfl (by
          refine .tup _ fun d hd => ?_
          simp [-Option.bind_some] at hd
          rcases hd with rfl | rfl | rfl
          · exact itr_ok _ _
          · constructor
          · constructor) (by rw [s5.1]; exact hl4') (fun q hq => by rw [s5.2 q (by omega)]; exact hq4 q hq)]
        exact .some ⟨rfl, _, by rw [hz], by rw [hz]; rfl⟩
      · have hz : decZ c l = (1, 0, ⟨[], 0, 0, 0, 0, [], 0, 0, [], [], []⟩) := by rw [hzd, if_pos (.inr (.inr hc))]
        simp only [hc, ne_eq, not_false_eq_true, decide_true, dIf_bool, if_true, bs]
        exact out g4 _ 0 1 hr4 rfl hl4' hq4 (by rw [hz, zit_ri])
theorem s1033r (l : List Int) (d : D) (h : Hp) (hd : RdB h l d) (hl : l.length ≤ 9223372036854775807) : R fn1033 [d] h = some (.int .u32 (crc l), h) := by
  suffices Wp (R fn1033 [d] h) (fun p => p = (.int .u32 (crc l), h)) by
    obtain ⟨p, h1, rfl⟩ := this
    exact h1
  rw [e1033]
  simp only [F1033, bs, Option.bind_assoc, rdB_len hd]
  refine Wp.loop (fun k ds g => g = h ∧ ∃ a b c e, ∃ i : Nat, ds = [.int .u32 (crcL 4294967295 (l.take i)), a, .int .i64 i, b, c, e] ∧ k + i = l.length) (fun r => r.1 = .ext 0 ∧ r.2.2 = h ∧ nth 0 r.2.1 = .int .u32 (crcL 4294967295 l)) l.length ⟨rfl, _, _, _, _, 0, rfl, rfl⟩ ?_ ?_
  · rintro k ds g ⟨rfl, a, b, c, e, i, rfl, hk⟩
    simp only [F1033_L0, nth_zero, nth_succ, bs, Option.bind_assoc, dBin_lss]
    refine Wp.dif ?_ ?_
    · intro h0
      have h0 : i < l.length := by have : (i : Int) < l.length := by simpa [-Option.bind_some] using h0
                                   omega
      have hg : l[i]? = some l[i] := List.getElem?_eq_getElem h0
      have htk : l.take (i + 1) = l.take i ++ [l[i]] := by rw [List.take_add_one, hg]; rfl
      generalize l[i] = z at hg htk
      have hw : IntKind.wrap .i64 ((i : Int) + 1) = ((i + 1 : Nat) : Int) := by
        rw [wrap_i64 (by omega) (by omega)]; omega
      obtain ⟨qq, q1, q2⟩ := rdB_ix hd i z hg
      simp only [q1, q2, bs, cv5_65, dBin_xor]
      have hst : stps 8 (IntKind.wrap .u32 (BitVec.ofInt IntKind.u32.bits (crcL 4294967295 (l.take i)) ^^^ BitVec.ofInt IntKind.u32.bits (IntKind.wrap .u32 z)).toNat) = crcL 4294967295 (l.take (i + 1)) := by rw [htk, crcL_snoc]; rfl
      refine l1033 g _ (by rw [wrap_bv]; exact bv_u32 _) _ fun a b => ?_
      simp only [unblk_self, unblk_nrm, toEnd_nrm, nth_zero, nth_succ, bs, dBin_add, hw, hst]
      exact .some (.inl ⟨rfl, k - 1, by omega, rfl, _, _, _, _, i + 1, rfl, by omega⟩)
    · intro h0
      have h0 : i = l.length := by have : ¬ (i : Int) < l.length := by simpa [-Option.bind_some] using h0
                                   omega
      subst h0
      exact .some (.inr ⟨by simp [-Option.bind_some], rfl, rfl, by simp [-Option.bind_some]⟩)
  · rintro ⟨x, ds, g⟩ ⟨rfl, rfl, hx⟩
    replace hx : nth 0 ds = _ := hx
    simp only [unblk_self, toEnd_nrm, nth_zero, bs, hx, dUn_xor, mkRes_one]
    exact .some rfl
theorem s1028o (ps : List (List Int × D)) (d : D) (h : Hp) (hd : SlOf 1 (fun p : List Int × D => [p.2]) ps d) (hps : ∀ p ∈ ps, RdB h p.1 p.2) (htot : ((ps.map (·.1)).flatten).length ≤ 1000000000) (hpl : ps.length ≤ 1000000000) : ∃ d' h', R fn1028 [d] h = some (d', h') ∧ Own h' h.length ty5 1 (((ps.map (·.1)).flatten).map byr) d' ∧ h.length ≤ h'.length ∧ ∀ q, q < h.length → h'[q]? = h[q]? := by
  suffices Wp (R fn1028 [d] h) (fun r => Own r.2 h.length ty5 1 (((ps.map (·.1)).flatten).map byr) r.1 ∧ h.length ≤ r.2.length ∧ ∀ q, q < h.length → r.2[q]? = h[q]?) by
    obtain ⟨⟨x, h'⟩, h1, h2⟩ := this
    exact ⟨x, h', h1, h2⟩
  have hcl : ∀ i, (((ps.take i).map (·.1)).flatten).length ≤ ((ps.map (·.1)).flatten).length := fun i => by
    have : ((ps.take i).map (·.1)).flatten ++ ((ps.drop i).map (·.1)).flatten = (ps.map (·.1)).flatten := by
      rw [← List.flatten_append, ← List.map_append, List.take_append_drop]
    rw [← this]; simp [-Option.bind_some]
  have hcs : ∀ i p, ps[i]? = some p → ((ps.take (i + 1)).map (·.1)).flatten = ((ps.take i).map (·.1)).flatten ++ p.1 := fun i p hp => by
    rw [List.take_add_one, hp]; simp [-Option.bind_some]
  rw [e1028]
  simp only [F1028, bs, Option.bind_assoc, lens1031 hd]
  refine Wp.loop (fun k ds g => g = h ∧ ∃ a b c, ∃ i : Nat, ds = [.int .i64 (((ps.take i).map (·.1)).flatten).length, a, .int .i64 i, b, c] ∧ k + i = ps.length)
    (fun r => r.1 = .ext 0 ∧ r.2.2 = h ∧ nth 0 r.2.1 = .int .i64 ((ps.map (·.1)).flatten).length) ps.length ⟨rfl, _, _, _, 0, rfl, rfl⟩ ?_ ?_
  · rintro k ds g ⟨rfl, a, b, c, i, rfl, hk⟩
    simp only [F1028_L0, nth_zero, nth_succ, bs, Option.bind_assoc, dBin_lss]
    refine Wp.dif ?_ ?_
    · intro h0
      have h0 : i < ps.length := by have : (i : Int) < ps.length := by simpa [-Option.bind_some] using h0
                                    omega
      have hg : ps[i]? = some ps[i] := List.getElem?_eq_getElem h0
      generalize ps[i] = p at hg
      have hp := hps p (List.mem_of_getElem? hg)
      have hw : IntKind.wrap .i64 ((i : Int) + 1) = ((i + 1 : Nat) : Int) := by
        rw [wrap_i64 (by omega) (by omega)]; omega
      have h1 := hcs i p hg
      have h2 := hcl (i + 1)
      have hw2 : IntKind.wrap .i64 ((((ps.take i).map (·.1)).flatten.length : Int) + p.1.length) = (((ps.take (i + 1)).map (·.1)).flatten).length := by
        rw [h1] at h2 ⊢
        simp only [List.length_append] at h2 ⊢
        rw [wrap_i64 (by omega) (by omega)]; omega
      have hnn : ¬ ((((ps.take (i + 1)).map (·.1)).flatten.length : Int) < 0) := by omega
      simp only [ixs1031 hd, Int.natCast_nonneg, if_true, Int.toNat_natCast, hg, Option.map_some, bs, ld22, rdB_len hp, dBin_add, hw2, hw, hnn, decide_false, dIf_bool, Bool.false_eq_true, if_false, unblk_nrm, toEnd_nrm]
      exact .some (.inl ⟨rfl, k - 1, by omega, rfl, _, _, _, i + 1, rfl, by omega⟩)
    · intro h0
      have h0 : i = ps.length := by have : ¬ (i : Int) < ps.length := by simpa [-Option.bind_some] using h0
                                    omega
      subst h0
      exact .some (.inr ⟨by simp [-Option.bind_some], rfl, rfl, by simp [-Option.bind_some]⟩)
  · rintro ⟨x, ds, g⟩ ⟨rfl, rfl, hx⟩
    replace hx : nth 0 ds = _ := hx
    simp only [unblk_self, toEnd_nrm, nth_zero, bs, hx, s1032 _ g (Int.natCast_nonneg _) (by omega : ((((ps.map (·.1)).flatten).length : Nat) : Int) ≤ 1000000000)]
    generalize htt : ((ps.map (·.1)).flatten).length = tot at *
    have hcase : ∃ x0 g0, (if (tot : Int) = 0 then some (D.nils, g) else some (.msl 1 g.length 0 0, dNew g ty5 1 (List.replicate (tot : Int).toNat zby))) = some (x0, g0) ∧ g.length ≤ g0.length ∧ (∀ q, q < g.length → g0[q]? = g[q]?) ∧ ((tot = 0 ∧ x0 = .nils) ∨ (x0 = .msl 1 g.length 0 0 ∧ g0[g.length]? = some (.row ty5 1 (List.replicate tot zby)))) := by
      by_cases hz : tot = 0
      · subst hz
        exact ⟨_, _, by simp [-Option.bind_some], Nat.le_refl _, fun _ _ => rfl, .inl ⟨rfl, rfl⟩⟩
      · refine ⟨.msl 1 g.length 0 0, dNew g ty5 1 (List.replicate tot zby), by simp [-Option.bind_some, hz], by simp [-Option.bind_some, dNew], fun q hq => ?_, .inr ⟨rfl, by simp [-Option.bind_some, dNew]⟩⟩
        simp only [dNew]; rw [List.getElem?_append_left hq]
    obtain ⟨x0, g0, e0, len0, bel0, hx0⟩ := hcase
    refine Wp.step e0 ?_
    simp only [bs]
    refine Wp.loop (fun k ds g' => ∃ x a b, ∃ i : Nat, ds = [x, a, .int .i64 i, b] ∧ k + i = ps.length ∧ g.length ≤ g'.length ∧ (∀ q, q < g.length → g'[q]? = g[q]?) ∧ ((tot = 0 ∧ x = .nils) ∨ (x = .msl 1 g.length 0 (((ps.take i).map (·.1)).flatten.map byr).length ∧ g'[g.length]? = some (.row ty5 1 (((ps.take i).map (·.1)).flatten.map byr ++ List.replicate (tot - (((ps.take i).map (·.1)).flatten).length) zby)))))
      (fun r => r.1 = .ext 2 ∧ g.length ≤ r.2.2.length ∧ (∀ q, q < g.length → r.2.2[q]? = g[q]?) ∧ ((tot = 0 ∧ nth 0 r.2.1 = .nils) ∨ (nth 0 r.2.1 = .msl 1 g.length 0 tot ∧ r.2.2[g.length]? = some (.row ty5 1 ((ps.map (·.1)).flatten.map byr))))) ps.length ⟨x0, _, _, 0, rfl, rfl, len0, bel0, by simpa [-Option.bind_some] using hx0⟩ ?_ ?_
    · rintro k ds g' ⟨x, a, b, i, rfl, hk, len, bel, hxx⟩
      simp only [F1028_L1, nth_zero, nth_succ, bs, Option.bind_assoc, dBin_lss]
      refine Wp.dif ?_ ?_
      · intro h0
        have h0 : i < ps.length := by have : (i : Int) < ps.length := by simpa [-Option.bind_some] using h0
                                      omega
        have hg : ps[i]? = some ps[i] := List.getElem?_eq_getElem h0
        generalize ps[i] = p at hg
        have hp : RdB g' p.1 p.2 := (hps p (List.mem_of_getElem? hg)).keep fun q T z rows hq => bel q (List.getElem?_eq_some_iff.1 hq).1
        have hw : IntKind.wrap .i64 ((i : Int) + 1) = ((i + 1 : Nat) : Int) := by
          rw [wrap_i64 (by omega) (by omega)]; omega
        have h1 := hcs i p hg
        have h2 := hcl (i + 1)
        rw [h1, List.length_append] at h2
        simp only [ixs1031 hd, Int.natCast_nonneg, if_true, Int.toNat_natCast, hg, Option.map_some, bs, ld22]
        rcases hxx with ⟨hz, rfl⟩ | ⟨rfl, hgo⟩
        · have hp0 : p.1 = [] := List.length_eq_zero_iff.1 (by omega)
          have e3 : dAppend tab g' ty22 ty22 .nils p.2 = some (.nils, g') := by
            have hd : dSrc g' ti22 ti5 p.2 = some [] := by
              simp only [dSrc, ti22_td, ti5_sz, rdB_rows hp, hp0]
              rfl
            unfold dAppend
            simp only [ti22_eq, ti22_td, ti5_eq, hd, ti5_sz, blt01]
          refine Wp.step e3 ?_
          simp only [dBin_add, bs, hw]
          exact .some (.inl ⟨rfl, k - 1, by omega, _, _, _, i + 1, rfl, by omega, len, bel, .inl ⟨hz, rfl⟩⟩)
        · obtain ⟨g3, e3, hg3, s3⟩ := app_room (T := tab) (t := ty22) (i := ti22) (j := ti5) (id rfl) (id rfl) (id rfl) (by decide) hgo (rdB_rows hp) (lim_ok (by rw [ti5_by]; simp only [List.length_map]; omega) (by simp only [List.length_map]; omega)) (by simp only [List.length_map, List.length_replicate]; omega)
          refine Wp.step e3 ?_
          simp only [bs, dBin_add, hw]
          refine .some (.inl ⟨rfl, k - 1, by omega, _, _, _, i + 1, rfl, by omega, by rw [s3.1]; exact len, fun q hq => (s3.2 q (by omega)).trans (bel q hq), .inr ⟨?_, ?_⟩⟩)
          · rw [h1]; simp [-Option.bind_some]; rfl
          · refine hg3.trans ?_
            rw [h1]
            simp only [List.map_append, List.length_map, List.drop_replicate, List.length_append]
            congr 4
            omega
      · intro h0
        have h0 : i = ps.length := by have : ¬ (i : Int) < ps.length := by simpa [-Option.bind_some] using h0
                                      omega
        subst h0
        refine .some (.inr ⟨by simp [-Option.bind_some], rfl, len, bel, ?_⟩)
        rcases hxx with ⟨h1, rfl⟩ | ⟨rfl, hgo⟩
        · exact .inl ⟨h1, rfl⟩
        · right
          rw [List.take_length] at hgo ⊢
          simp only [nth_zero, List.length_map, htt] at hgo ⊢
          simpa [-Option.bind_some] using hgo
    · rintro ⟨ex, ds, g'⟩ ⟨rfl, len, bel, hxx⟩
      simp only [unblk_self, toEnd_nrm, bs, mkRes_one]
      rcases hxx with ⟨h1, hx⟩ | ⟨hx, hgo⟩
      · replace hx : nth 0 ds = _ := hx
        rw [hx]
        refine .some ⟨.inl ⟨rfl, ?_⟩, len, bel⟩
        rw [List.map_eq_nil_iff]
        exact List.length_eq_zero_iff.1 (by omega)
      · replace hx : nth 0 ds = _ := hx
        rw [hx]
        exact .some ⟨.inr ⟨g.length, Nat.le_refl _, by rw [List.length_map, htt], hgo⟩, len, bel⟩
theorem s1029o (l p : List Int) (dl dp : D) (h : Hp) (hl : SlOf 1 byr l dl) (hp : SlOf 1 byr p dp) (hn : (l ++ p).length ≤ 1000000000) : R fn1029 [dl, dp] h = some (.int .u32 (crc (l ++ p)), h) := by
  rw [e1029]
  obtain ⟨d', h', e1, ow, len, old⟩ := s1028o [(l, dl), (p, dp)] (.sl 1 true [[dl], [dp]]) h (SlOf.mk 1 (fun p : List Int × D => [p.2]) [(l, dl), (p, dp)] true) (by
    intro q hq
    simp only [List.mem_cons, List.not_mem_nil, or_false] at hq
    rcases hq with rfl | rfl
    · exact .inl hl
    · exact .inl hp) (by simpa [-Option.bind_some] using hn) (by simp [-Option.bind_some])
  have ow : Own h' h.length ty5 1 ((l ++ p).map byr) d' := by simpa [-Option.bind_some] using ow
  simp only [F1029, bs, bs1031_2 dl dp (slof_one hl) (slof_one hp), e1, s1033r _ _ h' (RdB.own ow) (by omega), mkRes_one]
  exact scope_eq (by simp [-Option.bind_some]) (.int _ _) len old
theorem s1024o (j p : List Int) (dj dp : D) (h : Hp) (hj : SlOf 1 byr j dj) (hp : SlOf 1 byr p dp) (hjl : j.length ≤ 100000000) (hpl : p.length ≤ 100000000) : ∃ d', R fn1024 [dj, dp] h = some (.tup [d', .int .i64 (jErr j p)], h) ∧ SlOf 1 byr (jRes j p) d' := by
  rw [e1024]
  have hsn : ∀ n : Int, scope h h (.tup [.nils, .int .i64 n]) = some (.tup [.nils, .int .i64 n], h) := fun n => scope_eq (by simp [-Option.bind_some]) (.tup _ fun d hd => by simp [-Option.bind_some] at hd; rcases hd with rfl | rfl <;> constructor) (Nat.le_refl _) fun _ _ => rfl
  have w1 := wrap_i64 (n := (j.length : Int) + 8) (by omega) (by omega)
  have w2 := wrap_i64 (n := (j.length : Int) + 8 + p.length) (by omega) (by omega)
  by_cases h0 : p.length = 0
  · have he : jErr j p = 3 := by simp [-Option.bind_some, jErr, h0]
    exact ⟨.nils, by simp [-Option.bind_some, F1024, lens22 hp, h0, he, hsn], .inl ⟨rfl, by simp [-Option.bind_some, jRes, he]⟩⟩
  have hpn : ¬ p = [] := by intro hh; subst hh; simp [-Option.bind_some] at h0
  by_cases h1 : 8388608 < p.length
  · have he : jErr j p = 3 := by simp [-Option.bind_some, jErr, h0, h1]
    have h1' : (8388608 : Int) < p.length := by omega
    have h0' : ¬ (p.length : Int) = 0 := by omega
    exact ⟨.nils, by simp [-Option.bind_some, F1024, lens22 hp, hpn, h1', he, hsn], .inl ⟨rfl, by simp [-Option.bind_some, jRes, he]⟩⟩
  have h1' : ¬ (8388608 : Int) < p.length := by omega
  have h0' : ¬ (p.length : Int) = 0 := by omega
  by_cases h2 : 67108864 < j.length + 8 + p.length
  · have he : jErr j p = 16 := by simp [-Option.bind_some, jErr, h0, h1, h2]
    have h2' : (67108864 : Int) < j.length + 8 + p.length := by omega
    exact ⟨.nils, by simp [-Option.bind_some, F1024, lens22 hp, lens22 hj, hpn, h1', w1, w2, h2', he, hsn], .inl ⟨rfl, by simp [-Option.bind_some, jRes, he]⟩⟩
  have h2' : ¬ (67108864 : Int) < j.length + 8 + p.length := by omega
  have he : jErr j p = 0 := by simp [-Option.bind_some, jErr, h0, h1, h2]
  have hw : IntKind.wrap .u32 (p.length : Int) = p.length := wrap_u32 (by omega) (by omega)
  have hsum := s1029o (fixb p.length) p _ dp h (SlOf.mk 1 byr (fixb p.length) true) hp (by simp [-Option.bind_some, fixb_len]; omega)
  obtain ⟨d', h', e1, ow, len, old⟩ := s1028o [(j, dj), (fixb p.length, .sl 1 true ((fixb p.length).map byr)), (fixb (crc (fixb p.length ++ p)), .sl 1 true ((fixb (crc (fixb p.length ++ p))).map byr)), (p, dp)]
    (.sl 1 true [[dj], [.sl 1 true ((fixb p.length).map byr)], [.sl 1 true ((fixb (crc (fixb p.length ++ p))).map byr)], [dp]]) h (SlOf.mk 1 (fun p : List Int × D => [p.2]) [(j, dj), (fixb p.length, .sl 1 true ((fixb p.length).map byr)), (fixb (crc (fixb p.length ++ p)), .sl 1 true ((fixb (crc (fixb p.length ++ p))).map byr)), (p, dp)] true)
    (by
      intro q hq
      simp only [List.mem_cons, List.not_mem_nil, or_false] at hq
      rcases hq with rfl | rfl | rfl | rfl
      · exact .inl hj
      · exact .inl (SlOf.mk _ _ _ _)
      · exact .inl (SlOf.mk _ _ _ _)
      · exact .inl hp) (by simp [-Option.bind_some, fixb_len]; omega) (by simp [-Option.bind_some])
  have ow : Own h' h.length ty5 1 ((jRes j p).map byr) d' := by simpa [-Option.bind_some, jRes, he] using ow
  have hsl := own_sl (n0 := h.length) (n := 2) ow (Nat.le_refl _) (fun a _ => byr_frz _ h' 2 a)
  have hl4 := bs1031_4 dj (.sl 1 true ((fixb p.length).map byr)) (.sl 1 true ((fixb (crc (fixb p.length ++ p))).map byr)) dp (slof_one hj) rfl rfl (slof_one hp)
  have hend : scope h h' (.tup [d', .int .i64 0]) = some (.tup [frz h.length h' 3 d', .int .i64 0], h) := scope_eq (by simp [-Option.bind_some]) (by
    refine .tup _ fun d hd => ?_
    simp [-Option.bind_some] at hd
    rcases hd with rfl | rfl
    · exact slof_ok hsl fun a _ => byr_ok _ a
    · constructor) len old
  refine ⟨frz h.length h' 3 d', ?_, hsl⟩
  simp [-Option.bind_some, F1024, lens22 hp, lens22 hj, hpn, h1', w1, w2, h2', he, hw, s1027, hsum, hl4, e1, hend]
theorem s1023o (h : Hp) : R fn1023 [] h = some (.bool true, h) := by
  rw [e1023]
  obtain ⟨d', e1, hs⟩ := s1024o [] [1] .nils (.sl 1 true [[.int .u8 1]]) h (SlOf.nils _ _) (SlOf.mk 1 byr [1] true) (by simp [-Option.bind_some]) (by simp [-Option.bind_some])
  have h0 : jErr [] [1] = 0 := by decide
  have h1 : (jRes [] [1]).length = 9 := by simp [-Option.bind_some, jRes, h0, fixb_len]
  rw [h0] at e1
  simp [-Option.bind_some, F1023, e1, lens22 hs, h1]
theorem s1106o (l : List Int) (d : D) (h : Hp) (hd : SlOf 1 byr l d) (hl : l.length ≤ 100000000) (hu : ∀ z ∈ l, U8 z) : ∃ x, R fn1106 [d] h = some (.tup [x, .int .i64 (rd l).2], h) ∧ PartsOf (rd l).1 x := by
  suffices Wp (R fn1106 [d] h) (fun p => p.2 = h ∧ ∃ x, p.1 = .tup [x, .int .i64 (rd l).2] ∧ PartsOf (rd l).1 x) by
    obtain ⟨⟨x, h'⟩, h1, rfl, d', rfl, h2⟩ := this
    exact ⟨d', h1, h2⟩
  rw [e1106]
  simp only [F1106, bs, Option.bind_assoc]
  refine Wp.loop (fun k ds g => h.length ≤ g.length ∧ (∀ q, q < h.length → g[q]? = h[q]?) ∧ ∃ x a2 a3 a4 a5 a6 a7 a8, ∃ n : Nat, ∃ qs : List (List Int × D), ds = [x, .int .i64 n, a2, a3, a4, a5, a6, a7, a8] ∧ k + n = l.length ∧ n ≤ l.length ∧ qs.length ≤ n ∧ Own g h.length ty22 1 (qs.map fun p => [p.2]) x ∧ (∀ p ∈ qs, SlOf 1 byr p.1 p.2) ∧ (rd l).1 = qs.map (·.1) ++ (rd (l.drop n)).1 ∧ (rd l).2 = n + (rd (l.drop n)).2)
    (fun r => r.1 = .ext 0 ∧ h.length ≤ r.2.2.length ∧ (∀ q, q < h.length → r.2.2[q]? = h[q]?) ∧ ∃ x a2 a3 a4 a5 a6 a7 a8, ∃ v : Nat, ∃ qs : List (List Int × D), r.2.1 = [x, .int .i64 v, a2, a3, a4, a5, a6, a7, a8] ∧ Own r.2.2 h.length ty22 1 (qs.map fun p => [p.2]) x ∧ (∀ p ∈ qs, SlOf 1 byr p.1 p.2) ∧ (rd l).1 = qs.map (·.1) ∧ (rd l).2 = v) l.length
    ⟨Nat.le_refl _, fun _ _ => rfl, _, _, _, _, _, _, _, _, 0, [], rfl, rfl, by omega, by simp [-Option.bind_some], Own.nils _ _ _ _, by simp [-Option.bind_some], by simp [-Option.bind_some], by simp [-Option.bind_some]⟩ ?_ ?_
  · rintro k ds g ⟨hg, hq, x, a2, a3, a4, a5, a6, a7, a8, n, qs, rfl, hk, hnl, hqn, ow, hs, r1, r2⟩
    have w0 : IntKind.wrap .i64 ((l.length : Int) - n) = (l.length : Int) - n := wrap_i64 (by omega) (by omega)
    simp only [F1106_L0, nth_zero, nth_succ, bs, Option.bind_assoc, lens22 hd, dBin_sub, w0, dBin_geq]
    have stop : Stop (l.drop n) → (rd l).1 = qs.map (·.1) ∧ (rd l).2 = n := fun hst => by
      rw [rd_stop hst] at r1 r2
      exact ⟨by simpa [-Option.bind_some] using r1, by simpa [-Option.bind_some] using r2⟩
    refine Wp.dif ?_ ?_
    · intro h0
      have h0 : n + 8 ≤ l.length := by have : (8 : Int) ≤ (l.length : Int) - n := by simpa [-Option.bind_some] using h0
                                       omega
      have w1 : IntKind.wrap .i64 ((n : Int) + 4) = ((n + 4 : Nat) : Int) := by rw [wrap_i64 (by omega) (by omega)]; omega
      have w2 : IntKind.wrap .i64 ((n : Int) + 8) = ((n + 8 : Nat) : Int) := by rw [wrap_i64 (by omega) (by omega)]; omega
      obtain ⟨d6, e6, s6⟩ := cutC_by g hd n (n + 4) (by omega) (by omega)
      have l6 : (l.take (n + 4)).drop n = (l.drop n).take 4 := by rw [List.drop_take]; congr 1; omega
      rw [l6] at s6
      have hl4 : ((l.drop n).take 4).length = 4 := by simp [-Option.bind_some]; omega
      have hu4 : ∀ z ∈ (l.drop n).take 4, U8 z := fun z hz => hu z (List.mem_of_mem_drop (List.mem_of_mem_take hz))
      have en := s1110l _ d6 g s6 hl4 hu4
      have hN := num_four hl4 hu4
      unfold U32 at hN
      generalize hNN : num ((l.drop n).take 4) = N at en hN
      have w3 : IntKind.wrap .i64 N = N := wrap_i64 (by omega) (by omega)
      obtain ⟨m, hm⟩ : ∃ m : Nat, N = m := ⟨N.toNat, by omega⟩
      subst hm
      have w4 : IntKind.wrap .i64 ((l.length : Int) - ((n + 8 : Nat) : Int)) = (l.length : Int) - ((n + 8 : Nat) : Int) := wrap_i64 (by omega) (by omega)
      have hpick : ∀ (b1 b2 b3 : Bool) (K : D → Option Out), ((gd (.bool b1) false (some (.bool b2))).bind fun t31 => (dPick (.bool b1) (.bool true) t31).bind K) = K (.bool (b1 || b2)) := fun b1 b2 b3 K => by cases b1 <;> cases b2 <;> rfl
      by_cases hbad : m < 1 ∨ 8388608 < m ∨ l.length - n - 8 < m
      · have hst : Stop (l.drop n) := by
          unfold Stop
          rw [hNN, List.length_drop]
          simp only [Int.toNat_natCast]
          omega
        obtain ⟨q1, q2⟩ := stop hst
        have hb : (decide ((m : Int) < 1) || (decide ((m : Int) > 8388608) || decide ((m : Int) > (l.length : Int) - ((n + 8 : Nat) : Int)))) = true := by
          simp only [Bool.or_eq_true, decide_eq_true_eq]; omega
        simp only [dBin_add, w1, e6, bs, en, cv65_3, w3, w2, dBin_lss, dBin_gtr]
        by_cases c1 : (m : Int) < 1
        · simp only [c1, decide_true, gd_bool, reduceCtorEq, Bool.true_eq_false, if_false, bs, dPick_bool, dIf_bool, if_true]
          exact .some (.inr ⟨by simp [-Option.bind_some], rfl, hg, hq, _, _, _, _, _, _, _, _, n, qs, rfl, ow, hs, q1, q2⟩)
        · by_cases c2 : (m : Int) > 8388608
          · simp only [c1, c2, decide_true, decide_false, gd_bool, reduceCtorEq, Bool.true_eq_false, if_false, if_true, bs, dPick_bool, dIf_bool, dBin_gtr]
            exact .some (.inr ⟨by simp [-Option.bind_some], rfl, hg, hq, _, _, _, _, _, _, _, _, n, qs, rfl, ow, hs, q1, q2⟩)
          · have c3 : (m : Int) > (l.length : Int) - ((n + 8 : Nat) : Int) := by omega
            simp only [c1, c2, c3, decide_true, decide_false, gd_bool, reduceCtorEq, Bool.true_eq_false, Bool.false_eq_true, if_false, if_true, bs, dPick_bool, dIf_bool, dBin_gtr, lens22 hd, dBin_sub, w4]
            exact .some (.inr ⟨by simp [-Option.bind_some], rfl, hg, hq, _, _, _, _, _, _, _, _, n, qs, rfl, ow, hs, q1, q2⟩)
      · have c1 : ¬ (m : Int) < 1 := by omega
        have c2 : ¬ (m : Int) > 8388608 := by omega
        have c3 : ¬ (m : Int) > (l.length : Int) - ((n + 8 : Nat) : Int) := by omega
        have w5 : IntKind.wrap .i64 (((n + 8 : Nat) : Int) + (m : Int)) = ((n + 8 + m : Nat) : Int) := by rw [wrap_i64 (by omega) (by omega)]; omega
        obtain ⟨d9, e9, s9⟩ := cutC_by g hd (n + 8) (n + 8 + m) (by omega) (by omega)
        obtain ⟨d55, e55, s55⟩ := cutC_by g hd (n + 4) (n + 8) (by omega) (by omega)
        have l9 : (l.take (n + 8 + m)).drop (n + 8) = ((l.drop n).drop 8).take m := by rw [List.drop_take, List.drop_drop]; congr 1; omega
        have l55 : (l.take (n + 8)).drop (n + 4) = ((l.drop n).drop 4).take 4 := by rw [List.drop_take, List.drop_drop]; congr 1; omega
        rw [l9] at s9
        rw [l55] at s55
        have hl55 : (((l.drop n).drop 4).take 4).length = 4 := by simp [-Option.bind_some]; omega
        have hu55 : ∀ z ∈ ((l.drop n).drop 4).take 4, U8 z := fun z hz => hu z (List.mem_of_mem_drop (List.mem_of_mem_drop (List.mem_of_mem_take hz)))
        have e56 := s1110l _ d55 g s55 hl55 hu55
        have e59 := s1029o _ _ d6 d9 g s6 s9 (by simp [-Option.bind_some]; omega)
        simp only [dBin_add, w1, e6, bs, en, cv65_3, w3, w2, dBin_lss, dBin_gtr, c1, c2, c3, decide_true, decide_false, gd_bool, reduceCtorEq, Bool.true_eq_false, Bool.false_eq_true, if_false, if_true, dPick_bool, dIf_bool, lens22 hd, dBin_sub, w4, w5, e9, e55, e56, e59, dBin_neq]
        by_cases hcrc : num (((l.drop n).drop 4).take 4) = crc ((l.drop n).take 4 ++ ((l.drop n).drop 8).take m)
        · have hgo : ¬ Stop (l.drop n) := by
            unfold Stop
            rw [hNN, List.length_drop]
            simp only [Int.toNat_natCast]
            rintro (h1 | h1 | h1 | h1 | h1)
            · omega
            · omega
            · omega
            · omega
            · exact h1 hcrc
          rw [rd_go hgo, hNN] at r1 r2
          simp only [Int.toNat_natCast, List.drop_drop] at r1 r2
          simp only [hcrc, ne_eq, not_true, decide_false, dIf_bool, Bool.false_eq_true, if_false, bs, bs1031_1 d9 (slof_one s9)]
          refine wap1031 hg ow (rowsOf_sl _ _ _ _) (by simp [-Option.bind_some]; omega) fun x1 g1 ow1 len1 bel1 _ _ => ?_
          simp only [bs, dBin_add, w5]
          refine .some (.inl ⟨rfl, k - (8 + m), by omega, Nat.le_trans hg len1, fun q hq' => (bel1 q hq').trans (hq q hq'), _, _, _, _, _, _, _, _, n + 8 + m, qs ++ [(((l.drop n).drop 8).take m, d9)], rfl, by omega, by omega, by simp [-Option.bind_some]; omega, ?_, ?_, ?_, ?_⟩)
          · simpa [-Option.bind_some] using ow1
          · intro p hp
            rcases List.mem_append.1 hp with hp | hp
            · exact hs p hp
            · rw [List.mem_singleton.1 hp]; exact s9
          · rw [r1, List.drop_drop]
            simp only [List.map_append, List.map_cons, List.map_nil, List.append_assoc, List.singleton_append, Nat.add_assoc]
          · rw [r2]
            simp only [Nat.add_assoc]
        · have hst : Stop (l.drop n) := by
            unfold Stop
            rw [hNN]
            simp only [Int.toNat_natCast]
            exact .inr (.inr (.inr (.inr hcrc)))
          obtain ⟨q1, q2⟩ := stop hst
          simp only [hcrc, ne_eq, not_false_eq_true, decide_true, dIf_bool, if_true]
          exact .some (.inr ⟨by simp [-Option.bind_some], rfl, hg, hq, _, _, _, _, _, _, _, _, n, qs, rfl, ow, hs, q1, q2⟩)
    · intro h0
      have h0 : ¬ n + 8 ≤ l.length := by have : ¬ (8 : Int) ≤ (l.length : Int) - n := by simpa [-Option.bind_some] using h0
                                         omega
      obtain ⟨q1, q2⟩ := stop (.inl (by rw [List.length_drop]; omega))
      exact .some (.inr ⟨by simp [-Option.bind_some], rfl, hg, hq, _, _, _, _, _, _, _, _, n, qs, rfl, ow, hs, q1, q2⟩)
  · rintro ⟨ex, ds, g⟩ ⟨rfl, hg, hq, x, a2, a3, a4, a5, a6, a7, a8, v, qs, rfl, ow, hs, q1, q2⟩
    subst q2
    simp only [unblk_self, toEnd_nrm, bs, nth_zero, nth_succ, mkRes_two]
    have hsl := own_sl (f := fun p : List Int × D => [p.2]) (n0 := h.length) (n := 2) ow (Nat.le_refl _) (fun a ha d hd => by
      simp [-Option.bind_some] at hd; subst hd
      exact slof_frz (n := 1) (hs a ha) fun b _ => byr_frz _ g 1 b)
    rw [scope_eq (d' := .tup [frz h.length g 3 x, .int .i64 (rd l).2]) (by simp [-Option.bind_some]) (by
      refine .tup _ fun d hd => ?_
      simp [-Option.bind_some] at hd
      rcases hd with rfl | rfl
      · exact slof_ok hsl fun a ha d hd => by simp [-Option.bind_some] at hd; subst hd; exact slof_ok (hs a ha) fun b _ => byr_ok _ b
      · constructor) hg hq]
    exact .some ⟨rfl, _, rfl, qs, q1.symm, hsl, hs⟩
theorem wrap_u32m (n : Int) : IntKind.wrap .u32 n = n % 4294967296 := by
  unfold IntKind.wrap
  simp [-Option.bind_some, IntKind.signed, IntKind.bits, IntKind.min, IntKind.max]
theorem fdiv_pow (a : Int) (k : Nat) : a.fdiv (2 ^ k) = a / 2 ^ k := Int.fdiv_eq_ediv_of_nonneg _ (Int.le_of_lt (Int.pow_pos (by omega)))
theorem wide_eq (n : Int) : fixb (IntKind.wrap .u32 ((IntKind.wrap .u64 n).fdiv (2 ^ 32))) ++ fixb (IntKind.wrap .u32 n) = pI n := by
  unfold pI fixb
  simp only [putb, wrap_u8m, wrap_u32m, wrap_u64m, fdiv_pow, List.cons_append, List.nil_append, Nat.reduceMul]
  simp only [Int.reducePow, Int.ediv_one]
  simp only [List.cons.injEq, and_true]
  refine ⟨by omega, by omega, by omega, by omega, by omega, by omega, by omega, by omega⟩
theorem rdB_one {h : Hp} {l : List Int} {d : D} (hd : RdB h l d) : d.one = true := by
  rcases hd with hd | ⟨o, rfl, _⟩
  · exact slof_one hd
  · rfl
/-- wide: a number of 8 bytes more, in an object of its own. -/
theorem s1162 (l : List Int) (n : Int) (d : D) (h : Hp) (hd : RdB h l d) (hl : l.length ≤ 100000000) : ∃ d' h', R fn1162 [d, .int .i64 n] h = some (d', h') ∧ Own h' h.length ty5 1 ((l ++ pI n).map byr) d' ∧ h.length ≤ h'.length ∧ ∀ q, q < h.length → h'[q]? = h[q]? := by
  have m32 : min ((32 : Int).toNat) IntKind.u64.bits = 32 := by decide
  have hw := wide_eq n
  generalize hA : fixb (IntKind.wrap .u32 ((IntKind.wrap .u64 n).fdiv (2 ^ 32))) = A at hw
  generalize hB : fixb (IntKind.wrap .u32 n) = B at hw
  have hlA : A.length = 4 := by rw [← hA]; rfl
  have hlB : B.length = 4 := by rw [← hB]; rfl
  obtain ⟨d', h', e1, ow, len, old⟩ := s1028o [(l, d), (A, .sl 1 true (A.map byr)), (B, .sl 1 true (B.map byr))] (.sl 1 true [[d], [.sl 1 true (A.map byr)], [.sl 1 true (B.map byr)]]) h (SlOf.mk 1 (fun p : List Int × D => [p.2]) [(l, d), (A, .sl 1 true (A.map byr)), (B, .sl 1 true (B.map byr))] true)
    (by
      intro q hq
      simp only [List.mem_cons, List.not_mem_nil, or_false] at hq
      rcases hq with rfl | rfl | rfl
      · exact hd
      · exact .inl (SlOf.mk _ _ _ _)
      · exact .inl (SlOf.mk _ _ _ _)) (by simp [-Option.bind_some]; omega) (by simp [-Option.bind_some])
  have hfl : (([(l, d), (A, .sl 1 true (A.map byr)), (B, .sl 1 true (B.map byr))] : List (List Int × D)).map (·.1)).flatten = l ++ pI n := by rw [← hw]; simp [-Option.bind_some]
  rw [hfl] at ow
  refine ⟨d', h', ?_, ow, len, old⟩
  rw [e1162]
  simp only [F1162, bs, cv3_1029, dBin_shr, show ¬ (32 : Int) < 0 by omega, if_false, m32, cv1029_65, s1027, hA, hB, cv3_65, bs1031_3 d (.sl 1 true (A.map byr)) (.sl 1 true (B.map byr)) (rdB_one hd) rfl rfl, e1, mkRes_one]
theorem num_app (b : List Int) : ∀ (a : List Int), num (a ++ b) = num a * 256 ^ b.length + num b
  | [] => by simp [-Option.bind_some, num]
  | z :: a => by
    rw [List.cons_append, num_cons, num_app b a, num_cons, List.length_append, Int.pow_add, Int.add_mul, Int.mul_assoc]
    omega
theorem s1110g (l : List Int) (d : D) (h : Hp) (hd : SlOf 1 byr l d) (hl : 4 ≤ l.length) (hu : ∀ z ∈ l, U8 z) : R fn1110 [d] h = some (.int .u32 (num (l.take 4)), h) := by
  obtain ⟨a, b, c, e, r, rfl⟩ : ∃ a b c e r, l = a :: b :: c :: e :: r := by
    match l, hl with
    | a :: b :: c :: e :: r, _ => exact ⟨a, b, c, e, r, rfl⟩
  obtain ⟨d0, e0, s0⟩ := slh22 hd (k := .i64) (n := 4) (by omega) (by simp [-Option.bind_some]; omega)
  have s0 : SlOf 1 byr [a, b, c, e] d0 := s0
  have key := s1110 a b c e d0 h s0 (hu a (by simp [-Option.bind_some])) (hu b (by simp [-Option.bind_some])) (hu c (by simp [-Option.bind_some])) (hu e (by simp [-Option.bind_some]))
  rw [e1110] at key ⊢
  have i0 : dIndexAddr tab ty22 d (.int .i64 0) = some (.fptr (byr a)) := by rw [ixs22 hd]; rfl
  have i1 : dIndexAddr tab ty22 d (.int .i64 1) = some (.fptr (byr b)) := by rw [ixs22 hd]; rfl
  have i2 : dIndexAddr tab ty22 d (.int .i64 2) = some (.fptr (byr c)) := by rw [ixs22 hd]; rfl
  have i3 : dIndexAddr tab ty22 d (.int .i64 3) = some (.fptr (byr e)) := by rw [ixs22 hd]; rfl
  have j0 : dIndexAddr tab ty22 d0 (.int .i64 0) = some (.fptr (byr a)) := by rw [ixs22 s0]; rfl
  have j1 : dIndexAddr tab ty22 d0 (.int .i64 1) = some (.fptr (byr b)) := by rw [ixs22 s0]; rfl
  have j2 : dIndexAddr tab ty22 d0 (.int .i64 2) = some (.fptr (byr c)) := by rw [ixs22 s0]; rfl
  have j3 : dIndexAddr tab ty22 d0 (.int .i64 3) = some (.fptr (byr e)) := by rw [ixs22 s0]; rfl
  simp only [F1110, bs, j0, j1, j2, j3] at key
  simp only [F1110, bs, i0, i1, i2, i3]
  exact key
theorem s1163 (l : List Int) (d : D) (h : Hp) (hd : SlOf 1 byr l d) (hl : 8 ≤ l.length) (hu : ∀ z ∈ l, U8 z) : R fn1163 [d] h = some (.int .i64 (IntKind.wrap .i64 (num (l.take 8))), h) := by
  rw [e1163]
  have m32 : min ((32 : Int).toNat) IntKind.u64.bits = 32 := by decide
  have p32 : (2 : Int) ^ 32 = 4294967296 := by decide
  obtain ⟨d1, e1, h1⟩ := sll22 hd (k := .i64) (n := 4) (by omega) (by omega)
  have h1 : SlOf 1 byr (l.drop 4) d1 := h1
  have q1 := s1110g l d h hd (by omega) hu
  have q2 := s1110g (l.drop 4) d1 h h1 (by simp [-Option.bind_some]; omega) (fun z hz => hu z (List.mem_of_mem_drop hz))
  have hsp : l.take 8 = l.take 4 ++ (l.drop 4).take 4 := by rw [← List.take_add]
  have l1 : (l.take 4).length = 4 := by simp [-Option.bind_some]; omega
  have l2 : ((l.drop 4).take 4).length = 4 := by simp [-Option.bind_some]; omega
  obtain ⟨a0, a1⟩ := num_range 4 _ l1 fun z hz => hu z (List.mem_of_mem_take hz)
  obtain ⟨b0, b1⟩ := num_range 4 _ l2 fun z hz => hu z (List.mem_of_mem_drop (List.mem_of_mem_take hz))
  rw [p256_4] at a1 b1
  have hn : num (l.take 8) = num (l.take 4) * 4294967296 + num ((l.drop 4).take 4) := by rw [hsp, num_app, l2, p256_4]
  generalize num (l.take 4) = x at *
  generalize num ((l.drop 4).take 4) = y at *
  have w1 : IntKind.wrap .u64 x = x := wrap_u64 (by omega) (by omega)
  have w2 : IntKind.wrap .u64 y = y := wrap_u64 (by omega) (by omega)
  have w3 : IntKind.wrap .u64 (x * 2 ^ 32) = x * 2 ^ 32 := by rw [p32]; exact wrap_u64 (by omega) (by omega)
  have w4 := or_u64 (x := x) (b := y) 32 a0 b0 (by rw [p32]; omega) (by rw [p32]; omega)
  simp only [F1163, bs, q1, q2, e1, cv65_1029, w1, w2, dBin_shl, show ¬ (32 : Int) < 0 by omega, if_false, m32, w3, dBin_or, w4, cv1029_3, mkRes_one]
  rw [hn, p32]
theorem s1164 (l : List Int) (d e : D) (h : Hp) (hd : SlOf 1 byr l d) (he : SlOf 1 byr l e) : R fn1164 [d, e] h = some (.bool true, h) := by
  rw [e1164]
  simp only [F1164, bs, toStr_by hd, toStr_by he, dBin_seql, beq_self_eq_true, mkRes_one]
/-- What is needed of an item, of its content alone. -/
structure RG (hs : Int) (i : It) : Prop where
  fs : i.e.fs.length ≤ 20
  ok : itE i = 0
  host : i.e.a0 = hs
  r : (i.r == ([42] : Str)) = false
  bl : (bodyI i).length ≤ 20000
  rd : ItR i
theorem ri_cong {i j : It} (h : riOf i = riOf j) : encI i = encI j ∧ itE i = itE j ∧ (∀ hs, RG hs i → RG hs j) ∧ sameI i j = true := by
  obtain ⟨r, ⟨a0, a1, a2, a3, ls, ld, a5, a6, s7, s8, fs, fd, p1, p2, p3, p4⟩⟩ := i
  obtain ⟨r', ⟨a0', a1', a2', a3', ls', ld', a5', a6', s7', s8', fs', fd', p1', p2', p3', p4'⟩⟩ := j
  simp only [riOf, RI.mk.injEq] at h
  obtain ⟨rfl, rfl, rfl, rfl, rfl, rfl, rfl, rfl, rfl, rfl, rfl⟩ := h
  refine ⟨rfl, rfl, fun hs g => ⟨g.fs, g.ok, g.host, g.r, g.bl, ⟨g.rd.r, g.rd.a0, g.rd.a1, g.rd.a2, g.rd.a3, g.rd.nl, g.rd.ls, g.rd.a5, g.rd.a6, g.rd.t7, g.rd.t8, g.rd.nf, g.rd.fs⟩⟩, ?_⟩
  simp [-Option.bind_some, sameI, sameE]
/-- Items that can be read: frozen, or in a live object. -/
def RdI (g : Hp) (its : List It) (d : D) : Prop := SlOf 11 itr its d ∨ ∃ n0, Own g n0 ty74 11 (its.map itr) d
theorem RdI.keep {g g' : Hp} {its : List It} {d : D} (hd : RdI g its d) (hk : ∀ q, q < g.length → g'[q]? = g[q]?) : RdI g' its d := by
  rcases hd with hd | ⟨n0, ow⟩
  · exact .inl hd
  · exact .inr ⟨n0, ow.keep fun q _ hx => hk q (ow.lt hx).2⟩
theorem rdI_len {g : Hp} {its : List It} {d : D} (hd : RdI g its d) : dLenT tab ty113 d = some (.int .i64 its.length) := by
  rcases hd with hd | ⟨n0, ow⟩
  · exact lens113 hd
  · rw [leno113 ow, List.length_map]
theorem rdI_ix {g : Hp} {its : List It} {d : D} (hd : RdI g its d) (n : Nat) (i : It) (hi : its[n]? = some i) : ∃ q, dIndexAddr tab ty113 d (.int .i64 n) = some q ∧ dLoad tab g ty74 q = some (.agg (itr i)) := by
  rcases hd with hd | ⟨n0, ow⟩
  · exact ⟨.fptr (itr i), by rw [ixs113 hd]; simp [-Option.bind_some, hi], ldIt i g⟩
  · have hn : n < its.length := (List.getElem?_eq_some_iff.1 hi).1
    obtain ⟨o, ho, rfl, hob⟩ := own_ix ow (i := n) (by simpa [-Option.bind_some] using hn)
    refine ⟨.ptr o n 0, ?_, ?_⟩
    · rw [ixm113, if_pos (by simp [-Option.bind_some]; omega)]; simp [-Option.bind_some]
    · have hr : (its.map itr)[n]? = some (itr i) := by rw [List.getElem?_map, hi]; rfl
      rw [ldp74, row_of hob, hr]
      rfl
def batx (hs nu : Int) (d : D) : List D := [.int .i64 hs, .int .i64 nu, d]
theorem bx0 (hs nu : Int) (d : D) : dFieldAddr tab ty1064 0 (.fptr (batx hs nu d)) = some (.fptr (batx hs nu d)) := id rfl
theorem bx1 (hs nu : Int) (d : D) : dFieldAddr tab ty1064 1 (.fptr (batx hs nu d)) = some (.fptr [.int .i64 nu, d]) := id rfl
theorem bx2 (hs nu : Int) (d : D) : dFieldAddr tab ty1064 2 (.fptr (batx hs nu d)) = some (.fptr [d]) := id rfl
theorem bxl (hs nu : Int) (d : D) (g : Hp) : dLoad tab g ty3 (.fptr (batx hs nu d)) = some (.int .i64 hs) := id rfl
theorem bxb (hs nu : Int) (d : D) (g : Hp) : dLoad tab g ty1064 (.fptr (batx hs nu d)) = some (.agg (batx hs nu d)) := id rfl
theorem s1094r (hs nu : Int) (its : List It) (d : D) (h : Hp) (hd : RdI h its d) (h40 : its.length ≤ 40) (hit : ∀ i ∈ its, RG hs i) : R fn1094 [.agg (batx hs nu d)] h = some (.int .i64 0, h) := by
  suffices Wp (R fn1094 [.agg (batx hs nu d)] h) (fun p => p = (.int .i64 0, h)) by
    obtain ⟨p, h1, rfl⟩ := this
    exact h1
  have hlen : ¬ (its.length : Int) > 40 := by omega
  rw [e1094]
  simp only [F1094, pBoxF_agg, bx2, ld113, rdI_len hd, bs, Option.bind_assoc, dBin_gtr, hlen, decide_false, dIf_bool, Bool.false_eq_true, if_false]
  refine Wp.loop (fun k ds g => g = h ∧ ∃ a1 a2 a3 a4 a5 a6 a7, ∃ n : Nat, ds = [a1, a2, a3, .int .i64 n, a4, a5, a6, a7] ∧ k + n = its.length) (fun r => r.1 = .ext 0 ∧ r.2.2 = h) its.length ⟨rfl, _, _, _, _, _, _, _, 0, rfl, rfl⟩ ?_ ?_
  · rintro k ds g ⟨rfl, a1, a2, a3, a4, a5, a6, a7, n, rfl, hk⟩
    simp only [F1094_L0, nth_zero, nth_succ, bs, Option.bind_assoc, dBin_lss]
    refine Wp.dif ?_ ?_
    · intro h0
      have h0 : n < its.length := by have : (n : Int) < its.length := by simpa [-Option.bind_some] using h0
                                     omega
      obtain ⟨i, hi⟩ : ∃ i, its[n]? = some i := ⟨_, List.getElem?_eq_getElem h0⟩
      have hB := hit i (List.mem_of_getElem? hi)
      have hw : IntKind.wrap .i64 ((n : Int) + 1) = ((n + 1 : Nat) : Int) := by
        rw [wrap_i64 (by omega) (by omega)]; omega
      obtain ⟨q, hii, hq⟩ := rdI_ix hd n i hi
      have hck := s1042 i g hB.fs
      rw [hB.ok] at hck
      have q0 : dFieldAddr tab ty31 0 (.fptr (evr i.e)) = some (.fptr (evr i.e)) := id rfl
      have q1 : dLoad tab g ty3 (.fptr (evr i.e)) = some (.int .i64 i.e.a0) := id rfl
      simp only [hii, hq, ldIt, boxIt, hck, bs, dBin_neq, ne_eq, not_true, decide_false, dIf_bool, Bool.false_eq_true, if_false, itF1, q0, q1, bx0, bxl, ld3, hB.host, itF0, itL0, dBin_seql, hB.r, dBin_add, hw]
      exact .some (.inl ⟨rfl, k - 1, by omega, rfl, _, _, _, _, _, _, _, n + 1, rfl, by omega⟩)
    · intro h0
      exact .some (.inr ⟨by simp [-Option.bind_some], rfl, rfl⟩)
  · rintro ⟨ex, ds, g⟩ ⟨q1, q2⟩
    simp only at q1 q2
    subst q1; subst q2
    simp only [unblk_self, toEnd_nrm, bs, mkRes_one]
    exact .some rfl
def batZ (hs nu : Int) (its : List It) : List Int := (pI hs ++ pI nu ++ pN its.length) ++ (its.map encI).flatten
theorem batB_Z (b : Bat) : batB b = batZ b.hs b.nu b.its := rfl
theorem batZ_cong {hs nu : Int} {a b : List It} (h : a.map riOf = b.map riOf) : batZ hs nu a = batZ hs nu b := by
  have hl : a.length = b.length := by have := congrArg List.length h; simpa [-Option.bind_some] using this
  have key : ∀ (a b : List It), a.map riOf = b.map riOf → a.map encI = b.map encI := by
    intro a
    induction a with
    | nil => intro b hb; cases b with
      | nil => rfl
      | cons y b => simp [-Option.bind_some] at hb
    | cons x a ih => intro b hb; cases b with
      | nil => simp [-Option.bind_some] at hb
      | cons y b =>
        simp only [List.map_cons, List.cons.injEq] at hb ⊢
        exact ⟨(ri_cong hb.1).1, ih b hb.2⟩
  unfold batZ
  rw [hl, key a b h]
theorem own_le {h : Hp} {n0 n1 e z : Nat} {rows : List (List D)} {d : D} (ow : Own h n1 e z rows d) (hn : n0 ≤ n1) : Own h n0 e z rows d := by
  rcases ow with hx | ⟨o, ho, hx⟩
  · exact .inl hx
  · exact .inr ⟨o, Nat.le_trans hn ho, hx⟩
theorem batZ_len {hs nu : Int} {its : List It} (h40 : its.length ≤ 40) (hit : ∀ i ∈ its, RG hs i) : 20 ≤ (batZ hs nu its).length ∧ (batZ hs nu its).length ≤ 1000000 := by
  have hfl := flat_bound encI 20008 its fun i hi => by have := (hit i hi).bl; rw [encI_len]; omega
  have hfm : its.length * 20008 ≤ 40 * 20008 := Nat.mul_le_mul_right _ h40
  simp only [batZ, List.length_append, pI_len, pN_len]
  omega
theorem batZ_u8 (hs nu : Int) (its : List It) : ∀ z ∈ batZ hs nu its, U8 z := by
  intro z hz
  simp only [batZ, List.mem_append, List.mem_flatten, List.mem_map] at hz
  rcases hz with ((h | h) | h) | ⟨_, ⟨i, _, rfl⟩, h⟩
  · exact putb_u8 _ _ z h
  · exact putb_u8 _ _ z h
  · exact putb_u8 _ _ z h
  · exact encI_u8 i z h
theorem s1158r (hs nu : Int) (its : List It) (d : D) (h : Hp) (hd : RdI h its d) (h40 : its.length ≤ 40) (hit : ∀ i ∈ its, RG hs i) : ∃ d', R fn1158 [.agg (batx hs nu d)] h = some (.tup [d', .int .i64 0], h) ∧ SlOf 1 byr (batZ hs nu its) d' := by
  suffices Wp (R fn1158 [.agg (batx hs nu d)] h) (fun p => p.2 = h ∧ ∃ d', p.1 = .tup [d', .int .i64 0] ∧ SlOf 1 byr (batZ hs nu its) d') by
    obtain ⟨⟨x, h'⟩, h1, rfl, d', rfl, h2⟩ := this
    exact ⟨d', h1, h2⟩
  have hchk := s1094r hs nu its d h hd h40 hit
  have hfl := flat_bound encI 20008 its fun i hi => by have := (hit i hi).bl; rw [encI_len]; omega
  have hfm : its.length * 20008 ≤ 40 * 20008 := Nat.mul_le_mul_right _ h40
  obtain ⟨d1, h1, e1, o1, n1, k1⟩ := s1162 [] hs .nils h (.inl (.nils _ _)) (by simp [-Option.bind_some])
  have e1 : R fn1162 [.nils, .int .i64 hs] h = some (d1, h1) := e1
  obtain ⟨d2, h2, e2, o2, n2, k2⟩ := s1162 _ nu d1 h1 (RdB.own o1) (by simp [-Option.bind_some, pI_len])
  have hw : IntKind.wrap .u32 (its.length : Int) = its.length := wrap_u32 (by omega) (by omega)
  have hw6 : IntKind.wrap .u64 (its.length : Int) = its.length := wrap_u64 (by omega) (by omega)
  have hpN : pN its.length = fixb its.length := by unfold pN; rw [hw6, putb_fixb]
  have B2 : Bw h.length h .nils h2 (([] ++ pI hs) ++ pI nu) d2 := ⟨own_le o2 n1, Nat.le_trans n1 n2, fun q hq _ => (k2 q (by omega)).trans (k1 q hq), fun q hq => .inr (by have := (o2.lt hq).1; omega)⟩
  rw [e1158]
  simp only [F1158, pBoxF_agg, bs, Option.bind_assoc, bxb, hchk, dBin_neq, ne_eq, not_true, decide_false, dIf_bool, Bool.false_eq_true, if_false, bx0, bx1, bx2, bxl, ld3, ld113, e1, e2, rdI_len hd, cv3_65, hw, s1027]
  refine app_bw B2 (Nat.le_trans n1 n2) (rowsOf_sl _ _ _ _) (by simp [-Option.bind_some, pI_len, fixb_len]) fun d3 h3 B3 n3 => ?_
  have hA : [] ++ pI hs ++ pI nu ++ fixb its.length = pI hs ++ pI nu ++ pN its.length := by rw [hpN]; rfl
  rw [hA] at B3
  have hAl : (pI hs ++ pI nu ++ pN its.length).length = 20 := by simp only [List.length_append, pI_len, pN_len]
  simp only [chk_true, bs, Option.bind_assoc]
  refine Wp.loop (fun k ds g => h.length ≤ g.length ∧ ∃ a0 a1 d' a3 a4 a5 a7 a8, ∃ n : Nat, ds = [a0, a1, d', a3, a4, a5, .int .i64 n, a7, a8] ∧ k + n = its.length ∧ Bw h.length h .nils g ((pI hs ++ pI nu ++ pN its.length) ++ ((its.take n).map encI).flatten) d')
    (fun r => r.1 = .ext 0 ∧ h.length ≤ r.2.2.length ∧ (∃ a0 a1 d' a3 a4 a5 a6 a7 a8, r.2.1 = [a0, a1, d', a3, a4, a5, a6, a7, a8] ∧ Bw h.length h .nils r.2.2 (batZ hs nu its) d')) its.length ⟨n3, _, _, _, _, _, _, _, _, 0, rfl, rfl, by simpa [-Option.bind_some] using B3⟩ ?_ ?_
  · rintro k ds g ⟨hg, a0, a1, d', a3, a4, a5, a7, a8, n, rfl, hk, B⟩
    simp only [F1158_L0, nth_zero, nth_succ, bs, Option.bind_assoc, dBin_lss]
    refine Wp.dif ?_ ?_
    · intro h0
      have h0 : n < its.length := by have : (n : Int) < its.length := by simpa [-Option.bind_some] using h0
                                     omega
      obtain ⟨i, hi⟩ : ∃ i, its[n]? = some i := ⟨_, List.getElem?_eq_getElem h0⟩
      have hB := hit i (List.mem_of_getElem? hi)
      have hw : IntKind.wrap .i64 ((n : Int) + 1) = ((n + 1 : Nat) : Int) := by
        rw [wrap_i64 (by omega) (by omega)]; omega
      have hdg : RdI g its d := hd.keep fun q hq => B.old q hq (nil_ob q)
      obtain ⟨q, hii, hq⟩ := rdI_ix hdg n i hi
      have hil := hB.bl
      obtain ⟨de, ee, he⟩ := s1128 i 0 g (fun g => by have := s1042 i g hB.fs; rw [hB.ok] at this; exact this) (by omega)
      rw [if_pos rfl] at he
      have hle := flat_le encI its (n + 1)
      rw [flat_take encI hi, List.length_append] at hle
      simp only [hii, hq, boxIt, ldIt, ee, bs, dExtract_tup, List.getElem?_cons_zero, List.getElem?_cons_succ, dBin_neq, ne_eq, not_true, decide_false, dIf_bool, Bool.false_eq_true, if_false]
      refine app_bw B hg (rdB_rows (.inl he)) (by simp only [List.length_append, pI_len, pN_len]; omega) fun d4 g4 B4 n4 => ?_
      simp only [bs, dBin_add, hw]
      refine .some (.inl ⟨rfl, k - 1, by omega, n4, _, _, _, _, _, _, _, _, n + 1, rfl, by omega, ?_⟩)
      rw [flat_take encI hi]
      simpa [-Option.bind_some] using B4
    · intro h0
      have h0 : n = its.length := by have : ¬ (n : Int) < its.length := by simpa [-Option.bind_some] using h0
                                     omega
      subst h0
      rw [List.take_length] at B
      exact .some (.inr ⟨by simp [-Option.bind_some], rfl, hg, _, _, _, _, _, _, _, _, _, rfl, B⟩)
  · rintro ⟨ex, ds, g⟩ ⟨rfl, q2, a0, a1, d', a3, a4, a5, a6, a7, a8, rfl, B⟩
    simp only [unblk_self, toEnd_nrm, bs, nth_zero, nth_succ, mkRes_two]
    have hsl := own_sl (n0 := h.length) (n := 2) B.ow (Nat.le_refl _) (fun a _ => byr_frz _ g 2 a)
    rw [scope_eq (d' := .tup [frz h.length g 3 d', .int .i64 0]) (by simp [-Option.bind_some]) (by
      refine .tup _ fun d hd => ?_
      simp [-Option.bind_some] at hd
      rcases hd with rfl | rfl
      · exact slof_ok hsl fun a _ => byr_ok _ a
      · constructor) q2 (fun q hq => B.old q hq (nil_ob q))]
    exact .some ⟨rfl, _, rfl, hsl⟩
theorem s1160 (j : List Int) (hs nu : Int) (its : List It) (dj d : D) (h : Hp) (hj : SlOf 1 byr j dj) (hjl : j.length ≤ 10000000) (hd : RdI h its d) (h40 : its.length ≤ 40) (hit : ∀ i ∈ its, RG hs i) : ∃ d', R fn1160 [dj, .agg (batx hs nu d)] h = some (.tup [d', .int .i64 0], h) ∧ SlOf 1 byr (j ++ recOf (batZ hs nu its)) d' := by
  obtain ⟨d1, e1, h1⟩ := s1158r hs nu its d h hd h40 hit
  have hl := batZ_len (nu := nu) h40 hit
  obtain ⟨d2, e2, h2⟩ := s1024o j (batZ hs nu its) dj d1 h hj h1 (by omega) (by omega)
  have hE : jErr j (batZ hs nu its) = 0 := by
    unfold jErr
    rw [if_neg (by omega), if_neg (by omega)]
  have hR : jRes j (batZ hs nu its) = j ++ recOf (batZ hs nu its) := by
    unfold jRes
    rw [if_pos hE]
    simp [-Option.bind_some, recOf]
  rw [hE] at e2
  rw [hR] at h2
  refine ⟨d2, ?_, h2⟩
  rw [e1160]
  simp only [F1160, pBoxF_agg, bs, bxb, e1, dExtract_tup, List.getElem?_cons_zero, List.getElem?_cons_succ, dBin_neq, ne_eq, not_true, decide_false, dIf_bool, Bool.false_eq_true, if_false, e2, mkRes_two]
theorem ri_get {a b : List It} (hab : a.map riOf = b.map riOf) {n : Nat} {i j : It} (hi : a[n]? = some i) (hj : b[n]? = some j) : riOf i = riOf j := by
  have := congrArg (fun l => l[n]?) hab
  simpa [-Option.bind_some, List.getElem?_map, hi, hj] using this
end Go.Proofs.YtjhmicmbbgkhpaaDoor
