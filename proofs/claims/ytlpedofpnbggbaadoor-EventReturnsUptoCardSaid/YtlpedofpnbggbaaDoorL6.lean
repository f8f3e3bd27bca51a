/- Laws, on plain data, about functions that the statement reaches. -/
import Derived.Test.YtlpedofpnbggbaaDoorL5
set_option linter.unusedSimpArgs false
set_option linter.unusedVariables false
set_option linter.unnecessarySimpa false
set_option maxRecDepth 100000
namespace Go.Proofs.YtlpedofpnbggbaaDoor
open Go.Eng Go.Pi
theorem s1129 (l : List Int) (d : D) (c : Int) (h : Hp) (hd : SlOf 1 byr l d) (hl : l.length ≤ 1000000000) (hu : ∀ z ∈ l, U8 z)
    (hck : ∀ j : It, riOf j = visI ((l.take (num (l.take 4)).toNat).drop 4, false) → ∀ g, R fn1042 [.agg (itr j)] g = some (.int .i64 c, g)) :
    ∃ j : It, R fn1129 [d] h = some (.tup [.agg (itr j), .int .i64 (decZ c l).2.1, .int .i64 (decZ c l).1], h) ∧ riOf j = (decZ c l).2.2 := by
  suffices Wp (R fn1129 [d] h) (fun p => p.2 = h ∧ ∃ j : It, p.1 = .tup [.agg (itr j), .int .i64 (decZ c l).2.1, .int .i64 (decZ c l).1] ∧ riOf j = (decZ c l).2.2) by
    obtain ⟨⟨x, h'⟩, h1, rfl, j, rfl, h2⟩ := this
    exact ⟨j, h1, h2⟩
  have hz74 : ([.str [], .int .i64 0, .int .i64 0, .int .i64 0, .int .i64 0, .nils, .int .i64 0, .int .i64 0, .str [], .str [], .nils] : List D) = itr zit := rfl
  have hbz : dBuild tab ty74 [] [] = some (.agg (itr zit)) := id rfl
  -- a way out with an error: the result's variable is stored to and read
  have out : ∀ (g : Hp) (row : List D) (a b : Int), g[h.length]? = some (.row ty74 11 [row]) → row.length = 11 → h.length ≤ g.length → (∀ q, q < h.length → g[q]? = h[q]?) → (a, b, riOf zit) = ((decZ c l).2.1, (decZ c l).1, (decZ c l).2.2) →
      Wp ((dStore tab g ty74 (.ptr h.length 0 0) (.agg (itr zit))).bind fun h' => (dLoad tab h' ty74 (.ptr h.length 0 0)).bind fun d => scope h h' (mkRes [d, .int .i64 a, .int .i64 b])) (fun p => p.2 = h ∧ ∃ j : It, p.1 = .tup [.agg (itr j), .int .i64 (decZ c l).2.1, .int .i64 (decZ c l).1] ∧ riOf j = (decZ c l).2.2) := by
    intro g row a b hg hr hgl hgb he
    injection he with he1 he2
    injection he2 with he2 he3
    refine wst74 hg (by rfl) (by rfl) (by rw [hr]; exact Nat.le_refl _) (by rfl) fun g' h' s' => ?_
    have h' : g'[h.length]? = some (.row ty74 11 [itr zit]) := by
      rw [h']
      have hs : spl row 0 (cells1 (.agg (itr zit))) = itr zit := by
        have h11 : (itr zit).length = 11 := rfl
        simp [-Option.bind_some, spl, cells1, hr, h11]
      rw [hs]; rfl
    have ld : dLoad tab g' ty74 (.ptr h.length 0 0) = some (.agg (itr zit)) := by rw [ldp74, row_of h']; rfl
    rw [ld]
    simp only [bs, mkRes_3]
    rw [dec_end (by rw [s'.1]; exact hgl) (fun q hq => by rw [s'.2 q (by omega)]; exact hgb q hq)]
    exact .some ⟨rfl, zit, by rw [he1, he2], he3⟩
  rw [e1129]
  simp only [F1129, hz74, bs, Option.bind_assoc, lens22 hd, dBin_lss, hbz]
  have hp2 : (dNew h ty74 11 [itr zit])[h.length]? = some (.row ty74 11 [itr zit]) := dNew_get _ _ _ _
  have hq2 : ∀ q, q < h.length → (dNew h ty74 11 [itr zit])[q]? = h[q]? := fun q hq => dNew_old _ _ _ _ hq
  have hl2 : (dNew h ty74 11 [itr zit]).length = h.length + 1 := by simp [-Option.bind_some, dNew]
  generalize dNew h ty74 11 [itr zit] = g1 at *
  refine Wp.dif ?_ ?_
  · intro h0
    have h0 : l.length < 4 := by have : (l.length : Int) < 4 := by simpa [-Option.bind_some] using h0
                                 omega
    have hz : decZ c l = (14, 0, ⟨[], 0, 0, 0, 0, [], 0, 0, [], [], []⟩) := by unfold decZ; rw [if_pos h0]
    exact out g1 _ 0 14 hp2 rfl (by omega) hq2 (by rw [hz, zit_ri])
  intro h0
  have h0 : ¬ l.length < 4 := by have : ¬ (l.length : Int) < 4 := by simpa [-Option.bind_some] using h0
                                 omega
  obtain ⟨d4, e4, s4'⟩ := slh22 hd (k := .i64) (n := 4) (by omega) (by omega)
  have s4' : SlOf 1 byr (l.take 4) d4 := s4'
  have hl4 : (l.take 4).length = 4 := by simp [-Option.bind_some]; omega
  have hu4 : ∀ z ∈ l.take 4, U8 z := fun z hz => hu z (List.mem_of_mem_take hz)
  have e14 := s1136 _ d4 g1 s4' (by omega) hu4
  obtain ⟨n0, n1⟩ := num_range 4 _ hl4 hu4
  rw [p256_4] at n1
  have w5 : IntKind.wrap .i64 (num (l.take 4)) = num (l.take 4) := wrap_i64 (by omega) (by omega)
  have w6 : IntKind.wrap .i64 ((l.length : Int) - 4) = (l.length : Int) - 4 := wrap_i64 (by omega) (by omega)
  generalize hN : num (l.take 4) = N at *
  obtain ⟨n, rfl⟩ := Int.eq_ofNat_of_zero_le n0
  simp only [Int.toNat_natCast] at hck
  simp only [bs, e4, e14, cv1029_3, w5, dBin_lss, gd_bool]
  by_cases hbad : (n : Int) < 4 ∨ (l.length : Int) - 4 < (n : Int)
  · have hz : decZ c l = (14, 0, ⟨[], 0, 0, 0, 0, [], 0, 0, [], [], []⟩) := by unfold decZ; rw [if_neg h0, hN, if_pos hbad]
    by_cases c1 : (n : Int) < 4
    · simp only [c1, decide_true, reduceCtorEq, Bool.true_eq_false, if_false, bs, dPick_bool, if_true, dIf_bool]
      exact out g1 _ 0 14 hp2 rfl (by omega) hq2 (by rw [hz, zit_ri])
    · have c2 : (n : Int) > (l.length : Int) - 4 := by omega
      simp only [c1, decide_false, if_true, bs, lens22 hd, dBin_sub, w6, dBin_gtr, c2, decide_true, reduceCtorEq, Bool.true_eq_false, Bool.false_eq_true, if_false, dPick_bool, dIf_bool]
      exact out g1 _ 0 14 hp2 rfl (by omega) hq2 (by rw [hz, zit_ri])
  have c1 : ¬ (n : Int) < 4 := by omega
  have c2 : ¬ (n : Int) > (l.length : Int) - 4 := by omega
  simp only [c1, decide_false, if_true, bs, lens22 hd, dBin_sub, w6, dBin_gtr, c2, reduceCtorEq, Bool.true_eq_false, Bool.false_eq_true, if_false, dPick_bool, dIf_bool]
  obtain ⟨dn, en, sn⟩ := slh22 hd (k := .i64) (n := (n : Int)) (by omega) (by omega)
  rw [Int.toNat_natCast] at sn
  have e29 := s1135 (l.take n) dn g1 (.inl sn) (by simp [-Option.bind_some]; omega) (fun z hz => hu z (List.mem_of_mem_take hz))
  have w7 : IntKind.wrap .i64 ((n : Int) + 4) = ((n + 4 : Nat) : Int) := by rw [wrap_i64 (by omega) (by omega)]; omega
  obtain ⟨dc, ec, sc⟩ := cut2_by hd n (n + 4) (by omega) (by omega)
  have lc : (l.take (n + 4)).drop n = (l.drop n).take 4 := by rw [List.drop_take]; congr 1; omega
  rw [lc] at sc
  have e35 := s1136 _ dc g1 sc (by simp [-Option.bind_some]; omega) (fun z hz => hu z (List.mem_of_mem_drop (List.mem_of_mem_take hz)))
  simp only [en, e29, dBin_add, w7, ec, e35, bs, dBin_neq]
  refine Wp.dif ?_ ?_
  · intro h1
    have h1 : chkS (l.take n) ≠ num ((l.drop n).take 4) := by simpa [-Option.bind_some] using h1
    have hz : decZ c l = (15, 0, ⟨[], 0, 0, 0, 0, [], 0, 0, [], [], []⟩) := by unfold decZ; rw [if_neg h0, hN, if_neg hbad]; simp only [Int.toNat_natCast]; rw [if_pos h1]
    exact out g1 _ 0 15 hp2 rfl (by omega) hq2 (by rw [hz, zit_ri])
  intro h1
  have h1 : ¬ chkS (l.take n) ≠ num ((l.drop n).take 4) := by simpa [-Option.bind_some] using h1
  obtain ⟨db, eb, sb⟩ := cut2_by hd 4 n (by omega) (by omega)
  have eb : dSliceAt tab ty22 true true false [d, .int .i64 4, .int .i64 n] = some db := eb
  have hp6 : (dNew g1 ty74 11 [itr zit])[h.length + 1]? = some (.row ty74 11 [itr zit]) := by rw [← hl2]; exact dNew_get _ _ _ _
  have hp62 : (dNew g1 ty74 11 [itr zit])[h.length]? = some (.row ty74 11 [itr zit]) := by rw [dNew_old _ _ _ _ (by omega)]; exact hp2
  have hl6 : (dNew g1 ty74 11 [itr zit]).length = h.length + 2 := by simp [-Option.bind_some, dNew, hl2]
  have hq6 : ∀ q, q < h.length → (dNew g1 ty74 11 [itr zit])[q]? = h[q]? := fun q hq => by rw [dNew_old _ _ _ _ (by omega)]; exact hq2 q hq
  simp only [bs, hl2]
  generalize dNew g1 ty74 11 [itr zit] = g2 at *
  have hbc : dBuild tab ty1106 [0] [db] = some (.agg [db, .bool false]) := bd1106_0 db (slof_one sb)
  simp only [eb, hbc, bs, wBox_agg ty1106 2 g2 [db, .bool false] rfl (by omega), hl6]
  have hc0 : (dNew g2 ty1106 2 [[db, .bool false]])[h.length + 2]? = some (.row ty1106 2 [[db, .bool false]]) := by rw [← hl6]; exact dNew_get _ _ _ _
  have hi0 : (dNew g2 ty1106 2 [[db, .bool false]])[h.length + 1]? = some (.row ty74 11 [itr zit]) := by rw [dNew_old _ _ _ _ (by omega)]; exact hp6
  have hr0 : (dNew g2 ty1106 2 [[db, .bool false]])[h.length]? = some (.row ty74 11 [itr zit]) := by rw [dNew_old _ _ _ _ (by omega)]; exact hp62
  have hq0 : ∀ q, q < h.length + 1 → (dNew g2 ty1106 2 [[db, .bool false]])[q]? = g2[q]? := fun q hq => dNew_old _ _ _ _ (by omega)
  generalize dNew g2 ty1106 2 [[db, .bool false]] = g3 at *
  have V0 : ViS (h.length + 1) (h.length + 1) (h.length + 2) g2 g3 (itc [] 0 0 0 0 .nils 0 0 [] [] .nils) ((l.take n).drop 4, false) :=
    ⟨hi0, ⟨db, hc0, sb, fun z hz => hu z (List.mem_of_mem_take (List.mem_of_mem_drop hz)), by simp [-Option.bind_some]; omega⟩, hq0, by omega, by omega⟩
  refine v1133 V0 fun g4 ld fd V4 owL owF => ?_
  generalize hSt : (((l.take n).drop 4, false) : Cur) = st at *
  obtain ⟨dd, k1, k2, k3, k4⟩ := V4.hc
  obtain ⟨m1, m2⟩ := cu_ld k1
  have hr4 : g4[h.length]? = some (.row ty74 11 [itr zit]) := by rw [V4.lo h.length (by omega)]; exact hp62
  have hq4 : ∀ q, q < h.length → g4[q]? = h[q]? := fun q hq => by rw [V4.lo q (by omega)]; exact hq6 q hq
  have hl4' : h.length ≤ g4.length := by have := (List.getElem?_eq_some_iff.1 hr4).1; omega
  have ldi : dLoad tab g4 ty74 (.ptr (h.length + 1) 0 0) = some (.agg ((visI st).row ld fd)) := by rw [ldp74, row_of V4.hi]; rfl
  have hsl : st.1.length ≤ 1000000000 := by rw [← hSt]; simp [-Option.bind_some]; omega
  obtain ⟨hLl, hFl⟩ := visI_len st
  have hLl : (visI st).ls.length ≤ 9223372036854775807 := by omega
  have hFl : (visI st).fs.length ≤ 9223372036854775807 := by omega
  simp only [bs, nilCheck_ptr, fap1106_0, fap1106_1, m1, m2, gd_bool, lens22 k2]
  have hzd : ∀ x : Prop, decZ c l = if (visE st).2 = true ∨ 0 < (visE st).1.length ∨ c ≠ 0 then (1, 0, ⟨[], 0, 0, 0, 0, [], 0, 0, [], [], []⟩) else (0, 4 + (n : Int), visI st) := fun _ => by
    unfold decZ
    rw [if_neg h0, hN, if_neg hbad]
    simp only [Int.toNat_natCast]
    rw [if_neg h1, hSt]
  have hzd := hzd True
  cases hbd : (visE st).2 with
  | true =>
    have hz : decZ c l = (1, 0, ⟨[], 0, 0, 0, 0, [], 0, 0, [], [], []⟩) := by rw [hzd, if_pos (.inl hbd)]
    simp only [reduceCtorEq, Bool.true_eq_false, if_false, bs, dPick_bool, if_true, gd_bool, gdW_bool, dIf_bool]
    exact out g4 _ 0 1 hr4 rfl hl4' hq4 (by rw [hz, zit_ri])
  | false =>
    simp only [if_true, bs, nilCheck_ptr, fap1106_0, m1, lens22 k2, dBin_gtr]
    by_cases hlen : 0 < (visE st).1.length
    · have hz : decZ c l = (1, 0, ⟨[], 0, 0, 0, 0, [], 0, 0, [], [], []⟩) := by rw [hzd, if_pos (.inr (.inl hlen))]
      have hd1 : decide (((visE st).1.length : Int) > 0) = true := by simp only [decide_eq_true_eq]; omega
      simp only [hd1, reduceCtorEq, Bool.true_eq_false, Bool.false_eq_true, if_false, bs, dPick_bool, if_true, gd_bool, gdW_bool, dIf_bool]
      exact out g4 _ 0 1 hr4 rfl hl4' hq4 (by rw [hz, zit_ri])
    · have hd1 : decide (((visE st).1.length : Int) > 0) = false := by simp only [decide_eq_false_iff_not]; omega
      have sL := own_snap (n := 1) owL (fun a _ => linr_snap g4 1 a)
      have sF := own_snap (n := 1) owF (fun a _ => fld_snap g4 1 a)
      have hsn : snap g4 3 (.agg ((visI st).row ld fd)) = .agg (itr (mkIt (visI st) _ _ sL sF hLl hFl)) := rfl
      have hcall := hck (mkIt (visI st) _ _ sL sF hLl hFl) (mkIt_ri _ _ _ _ _ _ _) (g4.map fun _ => .dead)
      have hokv : (D.agg ((visI st).row ld fd)).okv = true := by
        clear hcall hsn sL sF V4 ldi
        rcases owL with ⟨rfl, _⟩ | ⟨_, _, rfl, _⟩ <;> rcases owF with ⟨rfl, _⟩ | ⟨_, _, rfl, _⟩ <;> rfl
      have hcB : callB R fn1042 [.agg ((visI st).row ld fd)] g4 = some (.int .i64 c, g4) := by
        unfold callB
        simp only [List.map_cons, List.map_nil, hsn, hcall]
        rfl
      simp only [hd1, if_true, Bool.false_eq_true, if_false, bs, dPick_bool, gd_bool, ldi, gdW_bool, hcB, dBin_neq]
      by_cases hc : c = 0
      · have hz : decZ c l = (0, 4 + (n : Int), visI st) := by
          rw [hzd, if_neg]
          rintro (hx | hx | hx)
          · rw [hbd] at hx; cases hx
          · exact hlen hx
          · exact hx hc
        rw [hc] at hz
        have w8 : IntKind.wrap .i64 (4 + (n : Int)) = 4 + (n : Int) := wrap_i64 (by omega) (by omega)
        simp only [hc, ne_eq, not_true, decide_false, dIf_bool, Bool.false_eq_true, if_false, bs, ldi, dBin_add, w8]
        refine wst74 (kk := 0) (off := 0) (row := itr zit) (v := .agg ((visI st).row ld fd)) hr4 (by rfl) (by rfl) (by exact Nat.le_refl _) hokv fun g5 h5 s5 => ?_
        have h5 : g5[h.length]? = some (.row ty74 11 [(visI st).row ld fd]) := h5
        have ld5 : dLoad tab g5 ty74 (.ptr h.length 0 0) = some (.agg ((visI st).row ld fd)) := by rw [ldp74, row_of h5]; rfl
        have owL5 : Own g5 (h.length + 1) ty78 3 ((visI st).ls.map linr) ld := owL.keep fun q hq _ => s5.2 q (by omega)
        have owF5 : Own g5 (h.length + 1) ty109 2 ((visI st).fs.map fld) fd := owF.keep fun q hq _ => s5.2 q (by omega)
        have fL := own_sl (n0 := h.length) (n := 1) owL5 (by omega) (fun a _ => linr_frz _ g5 1 a)
        have fF := own_sl (n0 := h.length) (n := 1) owF5 (by omega) (fun a _ => fld_frz _ g5 1 a)
        simp only [ld5, bs, mkRes_3]
        rw [scope_eq (d' := .tup [.agg (itr (mkIt (visI st) _ _ fL fF hLl hFl)), .int .i64 (4 + (n : Int)), .int .i64 0]) rfl (by
          refine .tup _ fun d hd => ?_
          simp [-Option.bind_some] at hd
          rcases hd with rfl | rfl | rfl
          · exact itr_ok _ _
          · constructor
          · constructor) (by rw [s5.1]; exact hl4') (fun q hq => by rw [s5.2 q (by omega)]; exact hq4 q hq)]
        exact .some ⟨rfl, _, by rw [hz], by rw [hz]; rfl⟩
      · have hz : decZ c l = (1, 0, ⟨[], 0, 0, 0, 0, [], 0, 0, [], [], []⟩) := by rw [hzd, if_pos (.inr (.inr hc))]
        simp only [hc, ne_eq, not_false_eq_true, decide_true, dIf_bool, if_true, bs]
        exact out g4 _ 0 1 hr4 rfl hl4' hq4 (by rw [hz, zit_ri])
/-- What is needed of an item, of its content alone. -/
structure RG (hs : Int) (i : It) : Prop where
  fs : i.e.fs.length ≤ 20
  ok : itE i = 0
  host : i.e.a0 = hs
  r : (i.r == ([42] : Str)) = false
  bl : (bodyI i).length ≤ 20000
  rd : ItR i
theorem ri_cong {i j : It} (h : riOf i = riOf j) : encI i = encI j ∧ itE i = itE j ∧ (∀ hs, RG hs i → RG hs j) ∧ sameI i j = true := by
  obtain ⟨r, ⟨a0, a1, a2, a3, ls, ld, a5, a6, s7, s8, fs, fd, p1, p2, p3, p4⟩⟩ := i
  obtain ⟨r', ⟨a0', a1', a2', a3', ls', ld', a5', a6', s7', s8', fs', fd', p1', p2', p3', p4'⟩⟩ := j
  simp only [riOf, RI.mk.injEq] at h
  obtain ⟨rfl, rfl, rfl, rfl, rfl, rfl, rfl, rfl, rfl, rfl, rfl⟩ := h
  refine ⟨rfl, rfl, fun hs g => ⟨g.fs, g.ok, g.host, g.r, g.bl, ⟨g.rd.r, g.rd.a0, g.rd.a1, g.rd.a2, g.rd.a3, g.rd.nl, g.rd.ls, g.rd.a5, g.rd.a6, g.rd.t7, g.rd.t8, g.rd.nf, g.rd.fs⟩⟩, ?_⟩
  simp [-Option.bind_some, sameI, sameE]
/-- The bytes of an item are read back. -/
theorem dec_enc {i : It} (h : ItR i) (hb : (bodyI i).length ≤ 20000) (r : List Int) : decZ 0 (encI i ++ r) = (0, ((encI i).length : Int), riOf i) ∧ visI (((encI i ++ r).take (num ((encI i ++ r).take 4)).toNat).drop 4, false) = riOf i := by
  have hw : IntKind.wrap .u64 (((bodyI i).length : Int) + 4) = ((bodyI i).length : Int) + 4 := wrap_u64 (by omega) (by omega)
  obtain ⟨P, hP⟩ : ∃ P, P = putb 4 (IntKind.wrap .u64 (((bodyI i).length : Int) + 4)) := ⟨_, rfl⟩
  obtain ⟨C, hC⟩ : ∃ C, C = putb 4 (chkS (encH i)) := ⟨_, rfl⟩
  have hPl : P.length = 4 := by rw [hP, putb_len]
  have hCl : C.length = 4 := by rw [hC, putb_len]
  have hH : encH i = P ++ bodyI i := by rw [hP]; rfl
  have hHl : (encH i).length = (bodyI i).length + 4 := by rw [hH, List.length_append]; omega
  have hE : encI i ++ r = encH i ++ (C ++ r) := by rw [hC]; simp [-Option.bind_some, encI]
  have hE2 : encI i ++ r = P ++ (bodyI i ++ (C ++ r)) := by rw [hE, hH]; simp [-Option.bind_some]
  have hnP : num P = (((bodyI i).length + 4 : Nat) : Int) := by rw [hP, hw, num_putb 4 _ (by omega), p256_4]; omega
  have hcr := chkS_range (encH i)
  have hnC : num C = chkS (encH i) := by rw [hC, num_putb 4 _ hcr.1, p256_4]; omega
  have t4 : (encI i ++ r).take 4 = P := by rw [hE2]; exact List.take_left' hPl
  have tn : (encI i ++ r).take ((bodyI i).length + 4) = encH i := by rw [hE]; exact List.take_left' hHl
  have dn : (encI i ++ r).drop ((bodyI i).length + 4) = C ++ r := by rw [hE]; exact List.drop_left' hHl
  have tc : (C ++ r).take 4 = C := List.take_left' hCl
  have d4 : (encH i).drop 4 = bodyI i := by rw [hH]; exact List.drop_left' hPl
  obtain ⟨v1, v2⟩ := visI_app h []
  rw [List.append_nil] at v1 v2
  have hEl : (encI i ++ r).length = (bodyI i).length + 8 + r.length := by rw [List.length_append, encI_len]
  refine ⟨?_, by rw [t4, hnP, Int.toNat_natCast, tn, d4]; exact v1⟩
  unfold decZ
  rw [if_neg (by omega), t4, hnP, if_neg (by omega), Int.toNat_natCast, tn, dn, tc, hnC, if_neg (by simp [-Option.bind_some]), d4, v1, v2, if_neg (by simp [-Option.bind_some]), encI_len]
  have e : 4 + (((bodyI i).length + 4 : Nat) : Int) = (((bodyI i).length + 8 : Nat) : Int) := by omega
  rw [e]
theorem mch_txt : ∀ (ls : List Lin) (a b : Int), mch a ls b → 0 ≤ a → b ≤ 1000000 → ∀ l ∈ ls, LnR l ∧ l.txt.length ≤ 200
  | [], a, b, _, _, _, l, hl => by cases hl
  | x :: r, a, b, h, h0, h1, l, hl => by
    obtain ⟨g1, g2, g3, g4, g5⟩ := h
    have hle := mch_le r _ _ g5
    rcases List.mem_cons.1 hl with rfl | hl
    · exact ⟨⟨by unfold I64; omega, by unfold I64; omega, by omega⟩, g4⟩
    · exact mch_txt r _ _ g5 (by omega) (by omega) l hl
/-- What reading back asks of an item as logtidemake draws it. -/
theorem itk_r {i : It} (h : ItK i) : ItR i ∧ (bodyI i).length ≤ 20000 := by
  have l3 := h.l3
  have f4 := h.fs
  obtain ⟨ch, a0, a9, l1⟩ := h.ch
  have hle := mch_le _ _ _ ch
  have tx := mch_txt _ _ _ ch a0 (by omega)
  have hh : i.r.length ≤ 32 ∧ i.e.s7.length ≤ 32 ∧ i.e.s8.length ≤ 32 ∧ I64 i.e.a0 ∧ I64 i.e.a1 ∧ I64 i.e.a5 ∧ I64 i.e.a6 ∧ ∀ p ∈ i.e.fs, p.1.length ≤ 1000 ∧ p.2.length ≤ 1000 := by
    rcases h with ⟨hr, g⟩ | g
    · have h1 := g.h0; have h2 := g.h2; have h3 := g.f0; have h4 := g.f2; have h5 := g.t0; have h6 := g.t9
      have hw := (show ∀ s ∈ lt82_14, (-10000 : Int) ≤ s ∧ s ≤ 10000 by decide) _ g.wt
      refine ⟨by rw [hr]; simp [-Option.bind_some], (show ∀ s ∈ lt98_15, s.length ≤ 32 by decide) _ g.tr, (show ∀ s ∈ lt98_16, s.length ≤ 32 by decide) _ g.st, by unfold I64; omega, by unfold I64; omega, by unfold I64; omega, by unfold I64; omega, fun p hp => ⟨?_, (show ∀ s ∈ lt98_18, s.length ≤ 1000 by decide) _ (g.fs.2 p hp)⟩⟩
      exact (show ∀ s ∈ lt98_17, s.length ≤ 1000 by decide) _ (g.fs.1.subset (List.mem_map.2 ⟨p, hp, rfl⟩))
    · have h1 := g.h0; have h2 := g.h2; have h3 := g.f0; have h4 := g.f2; have h5 := g.t0; have h6 := g.w0
      exact ⟨(show ∀ s ∈ lt98_35, s.length ≤ 32 by decide) _ g.r, by rw [g.tr]; simp [-Option.bind_some], by rw [g.st]; simp [-Option.bind_some], by unfold I64; omega, by unfold I64; omega, by unfold I64; omega, by unfold I64; omega, fun p hp => by rw [g.fs] at hp; cases hp⟩
  obtain ⟨r1, r2, r3, r4, r5, r6, r7, r8⟩ := hh
  refine ⟨⟨by omega, r4, r5, by unfold I64; omega, by unfold I64; omega, by omega, fun l hl => (tx l hl).1, r6, r7, by omega, by omega, by omega, fun p hp => by have := r8 p hp; omega⟩, ?_⟩
  have h1 := flat_bound lnB 220 i.e.ls (fun l hl => by
    have := (tx l hl).2
    simp only [lnB, List.length_append, pI_len, pS_len]; omega)
  have h2 : (i.e.fs.map fdB).flatten.length ≤ i.e.fs.length * 2008 := flat_bound fdB 2008 i.e.fs (fun p hp => by
    have := r8 p hp
    simp only [fdB, List.length_append, pS_len]; omega)
  have h8 : (i.e.fs.length * 2008 : Nat) ≤ 4 * 2008 := Nat.mul_le_mul_right _ f4
  have h9 : (i.e.ls.length * 220 : Nat) ≤ 3 * 220 := Nat.mul_le_mul_right _ l3
  simp only [bodyI, bodyB, bodyA, List.length_append, pI_len, pS_len, pN_len]
  omega
/-- An append whose result is put away. -/
theorem aft22 {h : Hp} {n0 : Nat} (hn0 : n0 ≤ h.length) {l l2 : List Int} {x y : D} (hx : Own h n0 ty5 1 (l.map byr) x) (hy : SlOf 1 byr l2 y) (hl : l.length + l2.length ≤ 140737488355328) {β : Type} {f : D × Hp → Option β} {Q : β → Prop}
    (k : ∀ p, SlOf 1 byr (l ++ l2) (aftW p).1 → h.length ≤ (aftW p).2.length → (∀ q, q < n0 → (aftW p).2[q]? = h[q]?) → Wp (f p) Q) : Wp ((dAppend tab h ty22 ty22 x y).bind f) Q := by
  refine wap22 hn0 hx (slof_rows _ hy) (by simp only [List.length_map]; omega) fun x' h' ow hlen hq _ hin => ?_
  rw [← List.map_append] at ow
  rcases ow with ⟨rfl, hn⟩ | ⟨o, ho, rfl, hg⟩
  · have e : aftW ((.nils : D), h') = (.nils, h') := rfl
    exact k _ (by rw [e]; exact .inl ⟨rfl, by simpa [-Option.bind_some] using hn⟩) (by rw [e]; exact hlen) (by rw [e]; exact hq)
  · have e : aftW (.msl 1 o 0 ((l ++ l2).map byr).length, h') = (frz o h' 3 (.msl 1 o 0 ((l ++ l2).map byr).length), offFrom o h') := rfl
    have ow2 : Own h' o ty5 1 ((l ++ l2).map byr) (.msl 1 o 0 ((l ++ l2).map byr).length) := .inr ⟨o, Nat.le_refl _, rfl, hg⟩
    refine k _ (by rw [e]; exact own_sl ow2 (Nat.le_refl _) fun a _ dd hdd => (by simp only [byr, List.mem_singleton] at hdd; subst hdd; exact frz_int _ _ _ _ _)) ?_ fun q hqn => ?_ <;> rw [e]
    · have := (List.getElem?_eq_some_iff.1 hg).1
      simp [-Option.bind_some, offFrom]; omega
    · have := (List.getElem?_eq_some_iff.1 hg).1
      rw [← hq q hqn]
      unfold offFrom
      rw [List.getElem?_append_left (by simp [-Option.bind_some]; omega), List.getElem?_take, if_pos (by omega)]
/-- An item comes back from its bytes. -/
theorem s1129k {i : It} (hi : ItK i) (r : List Int) (hru : ∀ z ∈ r, U8 z) (hrl : r.length ≤ 900000000) (d : D) (h : Hp) (hd : SlOf 1 byr (encI i ++ r) d) :
    ∃ j : It, R fn1129 [d] h = some (.tup [.agg (itr j), .int .i64 ((encI i).length : Int), .int .i64 0], h) ∧ sameI j i = true := by
  obtain ⟨hR, hb⟩ := itk_r hi
  obtain ⟨e1, e2⟩ := dec_enc hR hb r
  have hl := encI_len i
  obtain ⟨j, e, hj⟩ := s1129 (encI i ++ r) d 0 h hd (by simp only [List.length_append]; omega) (fun z hz => by
      rcases List.mem_append.1 hz with hz | hz
      · exact encI_u8 i z hz
      · exact hru z hz) (fun j hj g => by
      rw [e2] at hj
      obtain ⟨_, h2, _, _⟩ := ri_cong hj
      have hfs : j.e.fs = i.e.fs := by
        have := congrArg RI.fs hj
        exact this
      have := s1042 j g (by rw [hfs]; have := hi.fs; omega)
      rw [h2, hi.good] at this
      exact this)
  rw [e1] at e hj
  exact ⟨j, e, (ri_cong hj).2.2.2⟩
theorem law1122 (zs : List Int) (d : D) (rs : List Int) (dr : D) (hd : Given .u8 zs d) (hz : ∀ z ∈ zs, 0 ≤ z ∧ z < 256) (hzl : zs.length ≤ 9223372036854775807) (hr : Given .u8 rs dr) (hrz : ∀ z ∈ rs, 0 ≤ z ∧ z < 256) (hrl : rs.length ≤ 1048576) : ∃ h', R fn1122 [d, dr] [] = some (.bool true, h') := by
  suffices Wp (R fn1122 [d, dr] []) (fun p => p.1 = .bool true) by
    obtain ⟨⟨x, h'⟩, h1, rfl⟩ := this
    exact ⟨h', h1⟩
  have hrs : SlOf 1 byr rs dr := hr.imp id fun h => ⟨false, h⟩
  have hz74 : ([.str [], .int .i64 0, .int .i64 0, .int .i64 0, .int .i64 0, .nils, .int .i64 0, .int .i64 0, .str [], .str [], .nils] : List D) = itr zit := rfl
  rw [e1122]
  simp only [F1122, bs, s1036, hz74, dUn_not, Bool.not_true, dIf_bool, Bool.false_eq_true, if_false, Option.bind_assoc]
  obtain ⟨h1, e1, c1, _, _⟩ := m10 zs d 160 [] hd (by omega) (by omega) hz hzl
  refine Wp.step e1 ?_
  simp only [bs]
  obtain ⟨i, h2, e2, c2, s2, hi⟩ := m1038 c1
  refine Wp.step e2 ?_
  simp only [bs]
  obtain ⟨j, h3, e3, c3, s3, hj⟩ := m1038 c2
  refine Wp.step e3 ?_
  simp only [bs]
  have a0 : (dNew h3 ty74 11 [itr zit])[h3.length]? = some (.row ty74 11 [itr zit]) := dNew_get _ _ _ _
  have n0 : (dNew h3 ty74 11 [itr zit]).length = h3.length + 1 := by simp [-Option.bind_some, dNew]
  generalize dNew h3 ty74 11 [itr zit] = g0 at *
  have a1 : (dNew g0 ty74 11 [itr zit])[h3.length + 1]? = some (.row ty74 11 [itr zit]) := by rw [← n0]; exact dNew_get _ _ _ _
  have b1 : (dNew g0 ty74 11 [itr zit])[h3.length]? = some (.row ty74 11 [itr zit]) := by rw [dNew_old _ _ _ _ (by omega)]; exact a0
  have n1 : (dNew g0 ty74 11 [itr zit]).length = h3.length + 2 := by simp [-Option.bind_some, dNew, n0]
  rw [n0]
  generalize dNew g0 ty74 11 [itr zit] = g1 at *
  refine wst74 (kk := 0) (off := 0) (row := itr zit) (v := .agg (itr i)) b1 (by rfl) (by rfl) (by exact Nat.le_refl _) (itr_okv _) fun g2 p2 w2 => ?_
  have p2 : g2[h3.length]? = some (.row ty74 11 [itr i]) := p2
  have q2 : g2[h3.length + 1]? = some (.row ty74 11 [itr zit]) := by rw [w2.2 _ (by omega)]; exact a1
  try simp only [bs]
  refine wst74 (kk := 0) (off := 0) (row := itr zit) (v := .agg (itr j)) q2 (by rfl) (by rfl) (by exact Nat.le_refl _) (itr_okv _) fun g3 p3 w3 => ?_
  have p3 : g3[h3.length + 1]? = some (.row ty74 11 [itr j]) := p3
  have q3 : g3[h3.length]? = some (.row ty74 11 [itr i]) := by rw [w3.2 _ (by omega)]; exact p2
  have n3 : g3.length = h3.length + 2 := by rw [w3.1, w2.1, n1]
  have ldi : ∀ g : Hp, g[h3.length]? = some (.row ty74 11 [itr i]) → dLoad tab g ty74 (.ptr h3.length 0 0) = some (.agg (itr i)) := fun g hg => by rw [ldp74, row_of hg]; rfl
  have ldj : ∀ g : Hp, g[h3.length + 1]? = some (.row ty74 11 [itr j]) → dLoad tab g ty74 (.ptr (h3.length + 1) 0 0) = some (.agg (itr j)) := fun g hg => by rw [ldp74, row_of hg]; rfl
  obtain ⟨ri, bi⟩ := itk_r hi
  obtain ⟨rj, bj⟩ := itk_r hj
  have ck : ∀ (k : It), ItK k → ∀ g, R fn1042 [.agg (itr k)] g = some (.int .i64 0, g) := fun k hk g => by
    have := s1042 k g (by have := hk.fs; omega)
    rwa [hk.good] at this
  obtain ⟨da, ea, sa⟩ := s1128 i 0 g3 (ck i hi) (by omega)
  obtain ⟨db, eb, sb⟩ := s1128 j 0 g3 (ck j hj) (by omega)
  rw [if_pos rfl] at sa sb
  have li := encI_len i
  have lj := encI_len j
  simp only [ldi g3 q3, ldj g3 p3, ea, eb, bs, dExtract_tup, List.getElem?_cons_zero, List.getElem?_cons_succ, dBin_neq, ne_eq, not_true, decide_false, gd_bool, if_true, dPick_bool, dIf_bool, Bool.false_eq_true, if_false, Option.bind_assoc]
  refine wap22 (n0 := g3.length) (rows := []) (Nat.le_refl _) (.nils _ _ _ _) (slof_rows _ sa) (by simp only [List.length_map, List.length_nil]; omega) fun x4 g4 o4 l4 k4 _ _ => ?_
  rw [List.nil_append] at o4
  try simp only [bs]
  refine wap22 (n0 := g3.length) l4 o4 (slof_rows _ sb) (by simp only [List.length_map]; omega) fun x5 g5 o5 l5 k5 _ _ => ?_
  rw [← List.map_append] at o5
  try simp only [bs]
  refine aft22 (n0 := g3.length) (by omega) o5 hrs (by simp only [List.length_append]; omega) fun p6' o6 l6 k6 => ?_
  generalize aftW p6' = p6'' at o6 l6 k6 ⊢
  obtain ⟨x6, g6⟩ := p6''
  simp only at o6 l6 k6 ⊢
  have hk : ∀ q, q < g3.length → g6[q]? = g3[q]? := fun q hq => by rw [k6 q hq, k5 q hq, k4 q hq]
  have p6 : g6[h3.length + 1]? = some (.row ty74 11 [itr j]) := by rw [hk _ (by omega)]; exact p3
  have q6 : g6[h3.length]? = some (.row ty74 11 [itr i]) := by rw [hk _ (by omega)]; exact q3
  have hru : ∀ z ∈ encI j ++ rs, U8 z := fun z hz => by
    rcases List.mem_append.1 hz with hz | hz
    · exact encI_u8 j z hz
    · exact hrz z hz
  rw [List.append_assoc] at o6
  obtain ⟨x, ex, sx⟩ := s1129k hi (encI j ++ rs) hru (by simp only [List.length_append]; omega) x6 g6 o6
  have hbx : ∀ j : It, boxN 11 (.agg (itr j)) = some (.fptr (itr j)) := fun j => boxN_agg 11 _ rfl
  have h82 := s82 x i g6
  rw [sx] at h82
  obtain ⟨d7, e7, o7⟩ := sll22 o6 (k := .i64) (n := ((encI i).length : Int)) (by omega) (by simp only [List.length_append]; omega)
  rw [Int.toNat_natCast, List.drop_left] at o7
  obtain ⟨y, ey, sy⟩ := s1129k hj rs hrz (by omega) d7 g6 o7
  have h82' := s82 y j g6
  rw [sy] at h82'
  simp only [ex, hbx, bs, dExtract_tup, List.getElem?_cons_zero, List.getElem?_cons_succ, dBin_neq, ne_eq, not_true, decide_false, gd_bool, gdW_bool, if_true, lens22 sa, dPick_bool, dIf_bool, Bool.false_eq_true, if_false, Option.bind_assoc, ldIt, ldi g6 q6, ldj g6 p6, h82, dUn_not, Bool.not_true, e7, ey, dBin_eql, decide_true, lens22 sb, h82', mkRes_one]
  have hsc : scope [] g6 (.bool true) = some (.bool true, []) := scope_eq (by simp [-Option.bind_some]) (.bool _) (by simp [-Option.bind_some]) (fun q hq => by cases hq)
  rw [hsc]
  exact .some rfl
end Go.Proofs.YtlpedofpnbggbaaDoor
