/- Laws, on plain data, about functions that the statement reaches. -/
import Derived.Test.YteglojieneaojaaL4
set_option linter.unusedSimpArgs false
set_option linter.unusedVariables false
set_option linter.unnecessarySimpa false
set_option maxRecDepth 100000
namespace Go.Proofs.Yteglojieneaojaa
open Go.Eng Go.Pi
/-- Exact of the reference. -/
theorem s1173 (l : List Rw) (d : D) (n : Int) (h : Hp) (hd : RdR h l d) (hl : l.length ≤ 1000000) (hnn : ∀ r ∈ l, r.n ≠ []) : ∃ C : List Rw, ∃ d', R fn1173 [d, .int .i64 n] h = some (d', h) ∧ C.Perm l ∧ C.Pairwise rS ∧ SlOf 3 rowr (C.take (cutN n l.length)) d' := by
  suffices Wp (R fn1173 [d, .int .i64 n] h) (fun p => p.2 = h ∧ ∃ C : List Rw, C.Perm l ∧ C.Pairwise rS ∧ SlOf 3 rowr (C.take (cutN n l.length)) p.1) by
    obtain ⟨⟨x, h'⟩, h1, rfl, C, h2, h3, h4⟩ := this
    exact ⟨C, x, h1, h2, h3, h4⟩
  have t1 : tab ty1144 = some ti1144 := id rfl
  have t2 : ti1144.td = .sl ty1146 := id rfl
  have t3 : tab ty1146 = some ti1146 := id rfl
  rw [e1173]
  simp only [F1173, bs, Option.bind_assoc]
  refine Wp.loop (fun k ds g => ∃ x a b c e, ∃ i : Nat, ∃ C : List Rw, ds = [x, .int .i64 (i : Int), a, b, c, e] ∧ k + i = l.length ∧ Own g h.length ty1146 3 (C.map rowr) x ∧ h.length ≤ g.length ∧ (∀ q, q < h.length → g[q]? = h[q]?) ∧ C.Perm (l.take i) ∧ C.Pairwise rS)
    (fun r => r.1 = .ext 0 ∧ ∃ x a b c e f, ∃ C : List Rw, r.2.1 = [x, a, b, c, e, f] ∧ Own r.2.2 h.length ty1146 3 (C.map rowr) x ∧ h.length ≤ r.2.2.length ∧ (∀ q, q < h.length → r.2.2[q]? = h[q]?) ∧ C.Perm l ∧ C.Pairwise rS) l.length
    ⟨_, _, _, _, _, 0, [], rfl, rfl, Own.nils _ _ _ _, Nat.le_refl _, fun _ _ => rfl, by simp [-Option.bind_some], List.Pairwise.nil⟩ ?_ ?_
  · rintro k ds g ⟨x, a, b, c, e, i, C, rfl, hk, ow, hlen, hq, hp, hs⟩
    have hdg : RdR g l d := hd.keep hq
    simp only [F1173_L0, nth_zero, nth_succ, bs, Option.bind_assoc, rdR_len hdg, dBin_lss]
    refine Wp.dif ?_ ?_
    · intro h0
      have h0 : i < l.length := by have : (i : Int) < l.length := by simpa [-Option.bind_some] using h0
                                   omega
      obtain ⟨u, hu⟩ : ∃ u, l[i]? = some u := ⟨_, List.getElem?_eq_getElem h0⟩
      have hum := List.mem_of_getElem? hu
      have hw : IntKind.wrap .i64 ((i : Int) + 1) = ((i + 1 : Nat) : Int) := by rw [wrap_i64 (by omega) (by omega)]; omega
      have hCl : C.length ≤ 1000000 := by rw [hp.length_eq, List.length_take]; omega
      have hCi : C.length = i := by rw [hp.length_eq, List.length_take]; omega
      have hnC : ∀ y ∈ C, y.n ≠ [] := fun y hy => hnn y (List.mem_of_mem_take (hp.mem_iff.1 hy))
      have hRd : RdR g C x := RdR.own ow
      simp only [rdR_len hRd, bs]
      refine l1173 l d g hdg [x, .int .i64 (i : Int), a, b, c, e] i u hu rfl C hRd hCl (hnn u hum) hnC _ fun k' v k1 k2 k3 => ?_
      simp only [unblk_self, toEnd_nrm, bs, nth_zero, nth_succ, Option.bind_assoc]
      obtain ⟨d1, s1, r1⟩ := own_hi t1 t2 t3 (by decide) ow (kk := .i64) (k := k') (by simpa [-Option.bind_some] using k1)
      have r1 : dRowsOf g 3 d1 = some ((C.take k').map rowr) := by rw [List.map_take]; exact r1
      have s1 : dSliceAt tab ty1144 false true false [x, .int .i64 (k' : Int)] = some d1 := s1
      simp only [s1, bs]
      refine wap1144 (n0 := g.length) (rows := []) (Nat.le_refl _) (.nils _ _ _ _) r1 (by simp only [List.length_map, List.length_nil, List.length_take]; omega) fun x8 g1 o1 l1 b1 _ _ => ?_
      rw [List.nil_append] at o1
      have hdg1 : RdR g1 l d := hdg.keep b1
      obtain ⟨qu, hix, hlu, _, _⟩ := rdR_fld hdg1 i u hu
      have hlit : pLitF tab ty1144 1 [0] [.agg (rowr u)] = some (.sl 3 true [rowr u]) := bs1144_1 _ _ _
      simp only [hix, hlu, hlit, bs]
      refine wap1144 (n0 := g.length) (by omega) o1 (rowsOf_sl _ _ _ _) (by simp only [List.length_map, List.length_cons, List.length_nil, List.length_take]; omega) fun x9 g2 o2 l2 b2 _ _ => ?_
      have ow2 : Own g2 h.length ty1146 3 (C.map rowr) x := ow.keep fun q hq' hx => by
        have hlt := (ow.lt hx).2
        rw [b2 q (by omega), b1 q (by omega)]
      obtain ⟨d2, s2, r2⟩ := own_lo t1 t2 t3 (by decide) ow2 (kk := .i64) (k := k') (by simpa [-Option.bind_some] using k1)
      have r2 : dRowsOf g2 3 d2 = some ((C.drop k').map rowr) := by rw [List.map_drop]; exact r2
      have s2 : dSliceAt tab ty1144 true false false [x, .int .i64 (k' : Int)] = some d2 := s2
      simp only [s2, bs]
      refine wap1144 (n0 := g.length) (by omega) o2 r2 (by simp only [List.length_map, List.length_append, List.length_cons, List.length_nil, List.length_take, List.length_drop]; omega) fun x10 g3 o3 l3 b3 _ _ => ?_
      simp only [bs, dBin_add, hw]
      have hrows : (C.take k').map rowr ++ [rowr u] ++ (C.drop k').map rowr = (C.take k' ++ u :: C.drop k').map rowr := by simp [-Option.bind_some]
      rw [hrows] at o3
      refine .some (.inl ⟨rfl, k - 1, by omega, _, _, _, _, _, i + 1, C.take k' ++ u :: C.drop k', rfl, by omega, o3.from hlen, (by show h.length ≤ g3.length; omega), fun q hq' => by rw [b3 q (by omega), b2 q (by omega), b1 q (by omega)]; exact hq q hq', ?_, ?_⟩)
      · rw [List.take_add_one, hu, Option.toList_some]
        refine List.perm_middle.trans ?_
        rw [List.take_append_drop]
        exact (List.Perm.cons u hp).trans (by simpa [-Option.bind_some] using (List.perm_append_comm (l₁ := [u]) (l₂ := l.take i)))
      · refine pw_ins rS_od (by rw [List.take_append_drop]; exact hs) (fun _ _ => trivial) ?_ ?_
        · rcases Nat.lt_or_ge k' C.length with hlt | hge
          · right
            obtain ⟨y, hy⟩ : ∃ y, C[k']? = some y := ⟨_, List.getElem?_eq_getElem hlt⟩
            exact ⟨y, C.drop (k' + 1), drop_cons hy, k3 k' y (Nat.le_refl _) hy⟩
          · left; exact List.drop_eq_nil_of_le hge
        · rcases k2 with rfl | ⟨y, hy, hc⟩
          · left; rfl
          · rcases Nat.eq_zero_or_pos k' with rfl | hpos
            · left; rfl
            · right
              obtain ⟨r, hr⟩ := last_of (A := C) (t := k') (y := y) hpos hy
              exact ⟨y, r, hr, hc⟩
    · intro h0
      have h0 : l.length ≤ i := by have : ¬ (i : Int) < l.length := by simpa [-Option.bind_some] using h0
                                   omega
      rw [List.take_of_length_le h0] at hp
      exact .some (.inr ⟨by simp [-Option.bind_some], rfl, _, _, _, _, _, _, C, rfl, ow, hlen, hq, hp, hs⟩)
  · rintro ⟨ex, ds, g⟩ ⟨rfl, x, a, b, c, e, f, C, rfl, ow, hlen, hq, hp, hs⟩
    have hRd : RdR g C x := RdR.own ow
    have hmin := dMin_i n l.length
    have hcut := cutN_le n l.length
    have hCl := hp.length_eq
    simp only [unblk_self, toEnd_nrm, bs, nth_zero, nth_succ, Option.bind_assoc, dMax_i, rdR_len hRd, hCl, hmin]
    rcases ow with ⟨rfl, hn⟩ | ⟨o, ho, rfl, hg⟩
    · have hC : C = [] := by simpa [-Option.bind_some] using hn
      subst hC
      have hl0 : l = [] := List.nil_perm.1 hp
      subst hl0
      have hcut : cutN n ([] : List Rw).length = 0 := by have := cutN_le n ([] : List Rw).length; simpa [-Option.bind_some] using this
      have hsl : dSliceAt tab ty1144 false true false [.nils, .int .i64 ((0 : Nat) : Int)] = some .nils := by simp [-Option.bind_some, dSliceAt, dInt?, dSlice3, t1, t2, t3]
      have hsc : scope h g .nils = some (.nils, h) := scope_eq (by simp [-Option.bind_some]) .nils hlen hq
      rw [hcut, hsl]
      simp only [bs, mkRes_one, hsc]
      exact .some ⟨rfl, [], List.Perm.refl _, List.Pairwise.nil, .inl ⟨rfl, rfl⟩⟩
    · have hslice : dSliceAt tab ty1144 false true false [.msl 3 o 0 (C.map rowr).length, .int .i64 ((cutN n l.length : Nat) : Int)] = some (.msl 3 o 0 (cutN n l.length)) := msl_hi (T := tab) (t := ty1144) (i := ti1144) (j := ti1146) t1 t2 t3 (id rfl) (by decide) (by rw [List.length_map, hCl]; exact hcut)
      have hsc := rows_scope (m := cutN n l.length) (C := C) (by rw [hCl]; exact hcut) ho hg hlen hq
      simp only [hslice, bs, mkRes_one, hsc]
      exact .some ⟨rfl, C, hp, hs, .mk _ _ _ _⟩
/-- The decimal of a digit. -/
def dig (n : Int) : Str := [UInt8.ofNat (48 + n.toNat)]
theorem s1201 (n : Int) (h : Hp) (h0 : 0 ≤ n) (h9 : n ≤ 9) : R fn1201 [.int .i64 n] h = some (.str (dig n), h) := by
  suffices Wp (R fn1201 [.int .i64 n] h) (fun p => p = (.str (dig n), h)) by
    obtain ⟨p, h1, rfl⟩ := this
    exact h1
  have d0 : decide (n < 0) = false := decide_eq_false (by omega)
  have w1 : IntKind.wrap .u64 n = n := wrap_u64 h0 (by omega)
  have r1 : n.tmod 10 = n := by rw [Int.tmod_eq_emod_of_nonneg h0]; omega
  have q1 : n.tdiv 10 = 0 := by rw [Int.tdiv_eq_ediv_of_nonneg h0]; omega
  have w2 : IntKind.wrap .u64 (48 + n) = 48 + n := wrap_u64 (by omega) (by omega)
  have w3 : IntKind.wrap .u8 (48 + n) = 48 + n := by rw [wrap_u8m]; omega
  have w4 : IntKind.wrap .u64 0 = 0 := wrap_u64 (by omega) (by omega)
  have ap : dAppend tab h ty22 ty22 (.sl 1 true [[.int .u8 (48 + n)]]) .nils = some (.sl 1 true [[.int .u8 (48 + n)]], h) := id rfl
  have ts : dToStr h (.sl 1 true [[.int .u8 (48 + n)]]) = some (.str (dig n)) := by
    have e : (48 + n).toNat = 48 + n.toNat := by omega
    simp [-Option.bind_some, dToStr, dRowsOf, dBytes, dig, e]
  have hsc : scope h h (.str (dig n)) = some (.str (dig n), h) := scope_eq (by simp [-Option.bind_some]) (.str _) (Nat.le_refl _) fun _ _ => rfl
  rw [e1201]
  simp only [F1201, bs, Option.bind_assoc, cv3_1029, w1, dBin_lss, d0, dIf_bool, Bool.false_eq_true, if_false, toEnd_nrm, nth_zero]
  rw [loopW_eq]
  simp only [F1201_L0, nth_zero, nth_succ, bs, dBin_rem, show ¬ (10 : Int) = 0 by omega, if_false, r1, dBin_add, w2, cv1029_5, w3, bs22_1, ap, dBin_quo, q1, w4, dBin_eql, decide_true, dIf_bool, if_true, unblk_self, toEnd_nrm, dBin_lss, d0, Bool.false_eq_true, ts, mkRes_one, hsc]
  exact .some rfl
/-- The value of a name. -/
def valE (e : Ev) (nm : Str) : Str × Bool :=
  if nm = [64, 104, 111, 115, 116] then (dig e.a0, true) else if nm = [64, 116, 114, 97, 99, 101] then (e.s7, true) else if nm = [64, 115, 116, 114, 101, 97, 109] then (e.s8, true) else ((getF e.fs nm).getD [], (getF e.fs nm).isSome)
def nmOK (nm : Str) : Prop := nm ≠ [64, 102, 105, 108, 101] ∧ nm ≠ [64, 116, 105, 109, 101] ∧ nm ≠ [64, 119, 101, 105, 103, 104, 116]
theorem s1197 (e : Ev) (nm : Str) (h : Hp) (h0 : 0 ≤ e.a0) (h9 : e.a0 ≤ 9) (hn : nmOK nm) : R fn1197 [.agg (evr e), .str nm] h = some (.tup [.str (valE e nm).1, .bool (valE e nm).2], h) := by
  have q0 : dFieldAddr tab ty31 0 (.fptr (evr e)) = some (.fptr (evr e)) := id rfl
  have q7 : dFieldAddr tab ty31 7 (.fptr (evr e)) = some (.fptr [.str e.s7, .str e.s8, e.fd]) := id rfl
  have q8 : dFieldAddr tab ty31 8 (.fptr (evr e)) = some (.fptr [.str e.s8, e.fd]) := id rfl
  have q9 : dFieldAddr tab ty31 9 (.fptr (evr e)) = some (.fptr [e.fd]) := id rfl
  have l0 : dLoad tab h ty3 (.fptr (evr e)) = some (.int .i64 e.a0) := id rfl
  have l9 : dLoad tab h ty29 (.fptr [e.fd]) = some e.fd := by
    have h1 := slof_one e.hfd
    generalize e.fd = a at h1
    cases a <;> first | rfl | (simp [-Option.bind_some, D.one] at h1)
  rw [e1197]
  simp only [F1197, pBoxF_agg, bs, dBin_seql, q0, q7, q8, q9, l0]
  unfold valE
  have n1 : (nm == [64, 102, 105, 108, 101]) = false := by simpa [-Option.bind_some] using hn.1
  have n2 : (nm == [64, 116, 105, 109, 101]) = false := by simpa [-Option.bind_some] using hn.2.1
  have n3 : (nm == [64, 119, 101, 105, 103, 104, 116]) = false := by simpa [-Option.bind_some] using hn.2.2
  by_cases c1 : nm = [64, 104, 111, 115, 116]
  · have b1 : (nm == [64, 104, 111, 115, 116]) = true := by simpa [-Option.bind_some] using c1
    rw [if_pos c1]
    simp only [b1, dIf_bool, if_true, s1201 e.a0 h h0 h9, bs, mkRes_two]
  have b1 : (nm == [64, 104, 111, 115, 116]) = false := by simpa [-Option.bind_some] using c1
  by_cases c2 : nm = [64, 116, 114, 97, 99, 101]
  · have b2 : (nm == [64, 116, 114, 97, 99, 101]) = true := by simpa [-Option.bind_some] using c2
    have l7 : dLoad tab h ty9 (.fptr [.str e.s7, .str e.s8, e.fd]) = some (.str e.s7) := id rfl
    rw [if_neg c1, if_pos c2]
    simp only [b1, n1, n2, n3, b2, dIf_bool, Bool.false_eq_true, if_false, if_true, l7, bs, mkRes_two]
  have b2 : (nm == [64, 116, 114, 97, 99, 101]) = false := by simpa [-Option.bind_some] using c2
  by_cases c3 : nm = [64, 115, 116, 114, 101, 97, 109]
  · have b3 : (nm == [64, 115, 116, 114, 101, 97, 109]) = true := by simpa [-Option.bind_some] using c3
    have l8 : dLoad tab h ty9 (.fptr [.str e.s8, e.fd]) = some (.str e.s8) := id rfl
    rw [if_neg c1, if_neg c2, if_pos c3]
    simp only [b1, n1, n2, n3, b2, b3, dIf_bool, Bool.false_eq_true, if_false, if_true, l8, bs, mkRes_two]
  have b3 : (nm == [64, 115, 116, 114, 101, 97, 109]) = false := by simpa [-Option.bind_some] using c3
  rw [if_neg c1, if_neg c2, if_neg c3]
  simp only [b1, n1, n2, n3, b2, b3, dIf_bool, Bool.false_eq_true, if_false, l9, bs, s76 _ _ _ h e.hfd e.hl, getD', dExtract_tup, List.getElem?_cons_zero, List.getElem?_cons_succ, mkRes_two]
theorem getF_none {l : List (Str × Str)} (hl : FsOK l) : getF l [] = none := by
  unfold getF
  have : l.find? (fun p => p.1 == ([] : Str)) = none := by
    rw [List.find?_eq_none]
    intro p hp
    have hm := hl.1.subset (List.mem_map.2 ⟨p, hp, rfl⟩)
    have := (show ∀ s ∈ lt98_9, (s == ([] : Str)) = false by decide) _ hm
    simpa [-Option.bind_some] using this
  rw [this]; rfl
theorem s1196 (e : Ev) (h : Hp) (h0 : 0 ≤ e.a0) (h9 : e.a0 ≤ 9) (hf : FsOK e.fs) : R fn1196 [.agg (evr e), .str []] h = some (.tup [.int .i64 0, .bool false], h) := by
  have hv : valE e [] = ([], false) := by
    unfold valE
    rw [if_neg (by simp [-Option.bind_some]), if_neg (by simp [-Option.bind_some]), if_neg (by simp [-Option.bind_some]), getF_none hf]; rfl
  rw [e1196]
  have hL : dLoad tab h ty31 (.fptr (evr e)) = some (.agg (evr e)) := id rfl
  simp only [F1196, pBoxF_agg, bs, hL, s1197 e [] h h0 h9 (by unfold nmOK; simp [-Option.bind_some]), hv, dExtract_tup, List.getElem?_cons_zero, List.getElem?_cons_succ, dUn_not, Bool.not_false, dIf_bool, if_true, mkRes_two]
/-- The key of an event. -/
def keyE (ns : List Str) (e : Ev) : List Str := ns.map fun n => (valE e n).1
theorem s1195 (ns : List Str) (dn : D) (e : Ev) (h : Hp) (hd : SlOf 1 (fun s => [D.str s]) ns dn) (hl : ns.length ≤ 1000) (h0 : 0 ≤ e.a0) (h9 : e.a0 ≤ 9) (hn : ∀ n ∈ ns, nmOK n) : ∃ d', R fn1195 [dn, .agg (evr e)] h = some (d', h) ∧ SlOf 1 (fun s => [D.str s]) (keyE ns e) d' := by
  suffices Wp (R fn1195 [dn, .agg (evr e)] h) (fun p => p.2 = h ∧ SlOf 1 (fun s => [D.str s]) (keyE ns e) p.1) by
    obtain ⟨⟨x, h'⟩, h1, rfl, h2⟩ := this
    exact ⟨x, h1, h2⟩
  rw [e1195]
  have hL : ∀ g, dLoad tab g ty31 (.fptr (evr e)) = some (.agg (evr e)) := fun g => id rfl
  simp only [F1195, pBoxF_agg, bs, Option.bind_assoc]
  refine Wp.loop (fun k ds g => ∃ x a b, ∃ i : Nat, ds = [x, .int .i64 (i : Int), a, b] ∧ k + i = ns.length ∧ Own g h.length ty9 1 ((keyE (ns.take i) e).map fun s => [D.str s]) x ∧ h.length ≤ g.length ∧ (∀ q, q < h.length → g[q]? = h[q]?))
    (fun r => r.1 = .ext 0 ∧ ∃ x a b c, r.2.1 = [x, a, b, c] ∧ Own r.2.2 h.length ty9 1 ((keyE ns e).map fun s => [D.str s]) x ∧ h.length ≤ r.2.2.length ∧ (∀ q, q < h.length → r.2.2[q]? = h[q]?)) ns.length
    ⟨_, _, _, 0, rfl, rfl, Own.nils _ _ _ _, Nat.le_refl _, fun _ _ => rfl⟩ ?_ ?_
  · rintro k ds g ⟨x, a, b, i, rfl, hk, ow, hlen, hq⟩
    simp only [F1195_L0, nth_zero, nth_succ, bs, Option.bind_assoc, lens98 hd, dBin_lss]
    refine Wp.dif ?_ ?_
    · intro hlt
      have hlt : i < ns.length := by have : (i : Int) < ns.length := by simpa [-Option.bind_some] using hlt
                                     omega
      obtain ⟨u, hu⟩ : ∃ u, ns[i]? = some u := ⟨_, List.getElem?_eq_getElem hlt⟩
      have hw : IntKind.wrap .i64 ((i : Int) + 1) = ((i + 1 : Nat) : Int) := by rw [wrap_i64 (by omega) (by omega)]; omega
      simp only [hL, ixs98 hd, Int.natCast_nonneg, if_true, Int.toNat_natCast, hu, Option.map_some, bs, str_ld, s1197 e u g h0 h9 (hn u (List.mem_of_getElem? hu)), dExtract_tup, List.getElem?_cons_zero, List.getElem?_cons_succ, bs98_1]
      refine wap98 (n0 := h.length) hlen ow (rowsOf_sl _ _ _ _) (by simp [-Option.bind_some, keyE]; omega) fun x9 g2 o2 l2 b2 _ _ => ?_
      simp only [bs, dBin_add, hw]
      refine .some (.inl ⟨rfl, k - 1, by omega, _, _, _, i + 1, rfl, by omega, ?_, by show h.length ≤ g2.length; omega, fun q hq' => by rw [b2 q hq']; exact hq q hq'⟩)
      have : (keyE (ns.take (i + 1)) e).map (fun s => [D.str s]) = (keyE (ns.take i) e).map (fun s => [D.str s]) ++ [[D.str (valE e u).1]] := by
        rw [List.take_add_one, hu]; simp [-Option.bind_some, keyE]
      rw [this]; exact o2
    · intro hge
      have hge : ns.length ≤ i := by have : ¬ (i : Int) < ns.length := by simpa [-Option.bind_some] using hge
                                     omega
      rw [List.take_of_length_le hge] at ow
      exact .some (.inr ⟨by simp [-Option.bind_some], rfl, _, _, _, _, rfl, ow, hlen, hq⟩)
  · rintro ⟨ex, ds, g⟩ ⟨rfl, x, a, b, c, rfl, ow, hlen, hq⟩
    simp only [unblk_self, toEnd_nrm, bs, nth_zero, mkRes_one]
    have hs := own_sl (n0 := h.length) (n := 3) ow (Nat.le_refl _) fun s _ y hy => by simp [-Option.bind_some] at hy; subst hy; exact frz_str _ _ _ _
    have hsc : scope h g x = some (frz h.length g 4 x, h) := scope_eq rfl (str_ok _ hs) hlen hq
    rw [hsc]
    exact .some ⟨rfl, hs⟩
/-- What is known of one key: its total. -/
structure Pt where
  k : List Str
  kd : D
  hk : SlOf 1 (fun s => [D.str s]) k kd
  hkl : k.length ≤ 1000000
  tot : Int
  td : D
  ht : SlOf 1 inr [tot] td
  sd : D
  hs : SlOf 1 (fun b => [D.bool b]) [true] sd
  vd : D
  hv : SlOf 1 (fun d : D => [d]) [.nils] vd
def ptr' (p : Pt) : List D := [p.kd, p.td, p.sd, p.vd]
def aggd : D := .sl 2 true [[.int .i64 0, .str []]]
theorem aggd_len : dLenT tab ty1154 aggd = some (.int .i64 1) := id rfl
theorem aggd_ix : dIndexAddr tab ty1154 aggd (.int .i64 0) = some (.fptr [.int .i64 0, .str []]) := id rfl
theorem agg_ld (h : Hp) : dLoad tab h ty1153 (.fptr [.int .i64 0, .str []]) = some (.agg [.int .i64 0, .str []]) := id rfl
theorem agg_box : boxN 2 (.agg [.int .i64 0, .str []]) = some (.fptr [.int .i64 0, .str []]) := id rfl
theorem agg_f0 : dFieldAddr tab ty1153 0 (.fptr [.int .i64 0, .str []]) = some (.fptr [.int .i64 0, .str []]) := id rfl
theorem agg_f1 : dFieldAddr tab ty1153 1 (.fptr [.int .i64 0, .str []]) = some (.fptr [.str []]) := id rfl
theorem agg_l0 (h : Hp) : dLoad tab h ty3 (.fptr [.int .i64 0, .str []]) = some (.int .i64 0) := id rfl
/-- Three columns of one row each are laid into a variable. -/
theorem put3 {g : Hp} {o n0 : Nat} {kd : D} (ho : g[o]? = some (.row ty1168 4 [[kd, .nils, .nils, .nils]])) (hon : n0 ≤ g.length) (ho0 : o < n0) (tot : Int) (b : Bool) (v : D) (hv : v.one = true) {β : Type} {f : Hp → Option β} {Q : β → Prop}
    (K : ∀ g' x1 x2 x3, g'[o]? = some (.row ty1168 4 [[kd, x1, x2, x3]]) → Own g' n0 ty3 1 [[.int .i64 tot]] x1 → Own g' n0 ty4 1 [[.bool b]] x2 → Own g' n0 ty98 1 [[v]] x3 → g.length ≤ g'.length → (∀ q, q < n0 → q ≠ o → g'[q]? = g[q]?) → Wp (f g') Q) :
    Wp ((dLoad tab g ty82 (.ptr o 0 1)).bind fun t69 => (dAppend tab g ty82 ty82 t69 (.sl 1 true [[.int .i64 tot]])).bind fun p72 => (dLoad tab p72.2 ty1165 (.ptr o 0 2)).bind fun t74 => (dAppend tab p72.2 ty1165 ty1165 t74 (.sl 1 true [[.bool b]])).bind fun p77 =>
      (dLoad tab p77.2 ty1166 (.ptr o 0 3)).bind fun t79 => (dAppend tab p77.2 ty1166 ty1166 t79 (.sl 1 true [[v]])).bind fun p82 => (dStore tab p82.2 ty82 (.ptr o 0 1) p72.1).bind fun p916 => (dStore tab p916 ty1165 (.ptr o 0 2) p77.1).bind fun p918 =>
      chk (dLoad tab g ty1165 (.ptr o 0 2) = some t74) (chk (dLoad tab g ty1166 (.ptr o 0 3) = some t79) (chk (dLoad tab p72.2 ty1166 (.ptr o 0 3) = some t79) ((dStore tab p918 ty1166 (.ptr o 0 3) p82.1).bind f)))) Q := by
  have ld : ∀ (g : Hp), g[o]? = some (.row ty1168 4 [[kd, .nils, .nils, .nils]]) → dLoad tab g ty82 (.ptr o 0 1) = some .nils ∧ dLoad tab g ty1165 (.ptr o 0 2) = some .nils ∧ dLoad tab g ty1166 (.ptr o 0 3) = some .nils := fun g hg => ⟨by rw [ldp82, row_of hg]; rfl, by rw [ldp1165, row_of hg]; rfl, by rw [ldp1166, row_of hg]; rfl⟩
  simp only [(ld g ho).1, bs]
  refine wap82 (n0 := n0) (rows := []) hon (.nils _ _ _ _) (rowsOf_sl _ _ _ _) (by simp [-Option.bind_some]) fun x1 g1 o1 l1 b1 _ i1 => ?_
  rw [List.nil_append] at o1
  have h1 : g1[o]? = some (.row ty1168 4 [[kd, .nils, .nils, .nils]]) := by rw [b1 o ho0]; exact ho
  simp only [(ld g1 h1).2.1, bs]
  refine wap1165 (n0 := n0) (rows := []) (by omega) (.nils _ _ _ _) (rowsOf_sl _ _ _ _) (by simp [-Option.bind_some]) fun x2 g2 o2 l2 b2 e2 i2 => ?_
  rw [List.nil_append] at o2
  have h2 : g2[o]? = some (.row ty1168 4 [[kd, .nils, .nils, .nils]]) := by rw [b2 o ho0]; exact h1
  have o1 : Own g2 n0 ty3 1 [[.int .i64 tot]] x1 := o1.keep fun q hq hx => e2 q ((o1.lt hx).2) (fun hh => by obtain ⟨_, _, hh⟩ := hh; cases hh)
  simp only [(ld g2 h2).2.2, bs]
  refine wap1166 (n0 := n0) (rows := []) (by omega) (.nils _ _ _ _) (rowsOf_sl _ _ _ _) (by simp [-Option.bind_some]) fun x3 g3 o3 l3 b3 e3 i3 => ?_
  rw [List.nil_append] at o3
  have h3 : g3[o]? = some (.row ty1168 4 [[kd, .nils, .nils, .nils]]) := by rw [b3 o ho0]; exact h2
  have o1 : Own g3 n0 ty3 1 [[.int .i64 tot]] x1 := o1.keep fun q hq hx => e3 q ((o1.lt hx).2) (fun hh => by obtain ⟨_, _, hh⟩ := hh; cases hh)
  have o2 : Own g3 n0 ty4 1 [[.bool b]] x2 := o2.keep fun q hq hx => e3 q ((o2.lt hx).2) (fun hh => by obtain ⟨_, _, hh⟩ := hh; cases hh)
  have k1 := one_cells (own_one o1)
  have k2 := one_cells (own_one o2)
  have k3 := one_cells (own_one o3)
  try simp only [bs]
  refine wst82 h3 (by rfl) (by rw [k1.1]; rfl) (by show 1 + 1 ≤ 4; omega) k1.2 fun g4 p4 s4 => ?_
  rw [k1.1] at p4
  have p4 : g4[o]? = some (.row ty1168 4 [[kd, x1, .nils, .nils]]) := p4
  try simp only [bs]
  refine wst1165 p4 (by rfl) (by rw [k2.1]; rfl) (by show 2 + 1 ≤ 4; omega) k2.2 fun g5 p5 s5 => ?_
  rw [k2.1] at p5
  have p5 : g5[o]? = some (.row ty1168 4 [[kd, x1, x2, .nils]]) := p5
  simp only [(ld g ho).2.1, (ld g ho).2.2, (ld g1 h1).2.2, chk_true, bs]
  refine wst1166 p5 (by rfl) (by rw [k3.1]; rfl) (by show 3 + 1 ≤ 4; omega) k3.2 fun g6 p6 s6 => ?_
  rw [k3.1] at p6
  have p6 : g6[o]? = some (.row ty1168 4 [[kd, x1, x2, x3]]) := p6
  have sm : Same o g3 g6 := (s4.trans s5).trans s6
  refine K g6 x1 x2 x3 p6 (o1.same sm ho0) (o2.same sm ho0) (o3.same sm ho0) (by have := sm.1; omega) fun q hq hne => ?_
  rw [sm.2 q hne, b3 q hq, b2 q hq, b1 q hq]
theorem okv4 {a b c d : D} (ha : a.one = true) (hb : b.one = true) (hc : c.one = true) (hd : d.one = true) : (D.agg [a, b, c, d]).okv = true := by simp [-Option.bind_some, D.okv, ha, hb, hc, hd]
/-- A partial that is done in a variable: it is loaded, laid into the result's variable, given back. -/
def FinP (h : Hp) (ks : List Str) (kd : D) (tot : Int) (g : Hp) : Prop := ∃ x1 x2 x3, g[h.length]? = some (.row ty1168 4 [[.nils, .nils, .nils, .nils]]) ∧ g[h.length + 1]? = some (.row ty1168 4 [[kd, x1, x2, x3]]) ∧ Own g (h.length + 2) ty3 1 [[.int .i64 tot]] x1 ∧ Own g (h.length + 2) ty4 1 [[.bool true]] x2 ∧ Own g (h.length + 2) ty98 1 [[.nils]] x3 ∧ ∀ q, q < h.length → g[q]? = h[q]?
theorem fin_end {h g : Hp} {ks : List Str} {kd : D} {tot : Int} (hk : SlOf 1 (fun s => [D.str s]) ks kd) (hkl : ks.length ≤ 1000000) (hf : FinP h ks kd tot g) {Q : D × Hp → Prop} (K : ∀ pt : Pt, pt.k = ks → pt.tot = tot → Q (.agg (ptr' pt), h)) :
    Wp ((dLoad tab g ty1168 (.ptr (h.length + 1) 0 0)).bind fun t86 => (dStore tab g ty1168 (.ptr h.length 0 0) t86).bind fun p901 => (dLoad tab p901 ty1168 (.ptr h.length 0 0)).bind fun d => scope h p901 (mkRes [d])) Q := by
  obtain ⟨x1, x2, x3, a0, a1, o1, o2, o3, hq⟩ := hf
  have e1 : dLoad tab g ty1168 (.ptr (h.length + 1) 0 0) = some (.agg [kd, x1, x2, x3]) := by rw [ldp1168, row_of a1]; rfl
  simp only [e1, bs]
  refine wst1168 (off := 0) (v := .agg [kd, x1, x2, x3]) a0 (by rfl) (by rfl) (by show 0 + 4 ≤ 4; omega) (okv4 (slof_one hk) (own_one o1) (own_one o2) (own_one o3)) fun g2 p2 s2 => ?_
  have p2 : g2[h.length]? = some (.row ty1168 4 [[kd, x1, x2, x3]]) := p2
  have e2 : dLoad tab g2 ty1168 (.ptr h.length 0 0) = some (.agg [kd, x1, x2, x3]) := by rw [ldp1168, row_of p2]; rfl
  have gl := (List.getElem?_eq_some_iff.1 a1).1
  have o1 := o1.same s2 (by omega)
  have o2 := o2.same s2 (by omega)
  have o3 := o3.same s2 (by omega)
  have z1 : SlOf 1 inr [tot] (frz h.length g2 3 x1) := own_sl (n0 := h.length) (n := 2) (f := inr) (l := [tot]) o1 (by omega) fun s _ y hy => by simp [-Option.bind_some, inr] at hy; subst hy; exact frz_int _ _ _ _ _
  have z2 : SlOf 1 (fun b => [D.bool b]) [true] (frz h.length g2 3 x2) := own_sl (n0 := h.length) (n := 2) (f := fun b => [D.bool b]) (l := [true]) o2 (by omega) fun s _ y hy => by simp [-Option.bind_some] at hy; subst hy; exact frz_bool _ _ _ _
  have z3 : SlOf 1 (fun d : D => [d]) [.nils] (frz h.length g2 3 x3) := own_sl (n0 := h.length) (n := 2) (f := fun d : D => [d]) (l := [.nils]) o3 (by omega) fun s hs y hy => by simp [-Option.bind_some] at hs hy; subst hy; subst hs; exact frz_nils _ _ _
  have z0 : frz h.length g2 3 kd = kd := str_frz _ _ 2 hk
  have hsc : scope h g2 (.agg [kd, x1, x2, x3]) = some (.agg [kd, frz h.length g2 3 x1, frz h.length g2 3 x2, frz h.length g2 3 x3], h) := by
    refine scope_eq ?_ ?_ (by have := s2.1; omega) (fun q hq' => by rw [s2.2 q (by omega)]; exact hq q hq')
    · simp only [frz_agg, List.map_cons, List.map_nil, z0]
    · refine .agg _ fun y hy => ?_
      simp only [List.mem_cons, List.not_mem_nil, or_false] at hy
      rcases hy with rfl | rfl | rfl | rfl
      · exact str_ok _ hk
      · exact inr_ok _ z1
      · exact slof_ok z2 fun b _ y hy => by simp [-Option.bind_some] at hy; subst hy; exact .bool _
      · exact slof_ok z3 fun b hb y hy => by simp [-Option.bind_some] at hb hy; subst hy; subst hb; exact .nils
  simp only [e2, bs, mkRes_one, hsc]
  exact .some (K ⟨ks, kd, hk, hkl, tot, _, z1, _, z2, _, z3⟩ rfl rfl)
theorem s1191 (ns : List Str) (dn : D) (e : Ev) (h : Hp) (hd : SlOf 1 (fun s => [D.str s]) ns dn) (hl : ns.length ≤ 1000) (h0 : 0 ≤ e.a0) (h9 : e.a0 ≤ 9) (hn : ∀ n ∈ ns, nmOK n) (hf : FsOK e.fs) : ∃ pt : Pt, R fn1191 [dn, aggd, .agg (evr e)] h = some (.agg (ptr' pt), h) ∧ pt.k = keyE ns e ∧ pt.tot = e.a6 := by
  suffices Wp (R fn1191 [dn, aggd, .agg (evr e)] h) (fun p => p.2 = h ∧ ∃ pt : Pt, p.1 = .agg (ptr' pt) ∧ pt.k = keyE ns e ∧ pt.tot = e.a6) by
    obtain ⟨⟨x, h'⟩, h1, rfl, pt, rfl, h2⟩ := this
    exact ⟨pt, h1, h2⟩
  have hL : ∀ g, dLoad tab g ty31 (.fptr (evr e)) = some (.agg (evr e)) := fun g => id rfl
  rw [e1191]
  simp only [F1191, pBoxF_agg, bs, Option.bind_assoc, hL]
  have a0 : (dNew h ty1168 4 [[.nils, .nils, .nils, .nils]])[h.length]? = some (.row ty1168 4 [[.nils, .nils, .nils, .nils]]) := dNew_get _ _ _ _
  have k0 : ∀ q, q < h.length → (dNew h ty1168 4 [[.nils, .nils, .nils, .nils]])[q]? = h[q]? := fun q hq => dNew_old _ _ _ _ hq
  have n0 : (dNew h ty1168 4 [[.nils, .nils, .nils, .nils]]).length = h.length + 1 := by simp [-Option.bind_some, dNew]
  generalize dNew h ty1168 4 [[.nils, .nils, .nils, .nils]] = g0 at *
  obtain ⟨kd, ek, hk⟩ := s1195 ns dn e g0 hd hl h0 h9 hn
  have hkl : (keyE ns e).length ≤ 1000000 := by simp [-Option.bind_some, keyE]; omega
  simp only [ek, bs, bd1168_0 kd (slof_one hk)]
  have a1 : (dNew g0 ty1168 4 [[.nils, .nils, .nils, .nils]])[h.length + 1]? = some (.row ty1168 4 [[.nils, .nils, .nils, .nils]]) := by rw [← n0]; exact dNew_get _ _ _ _
  have b1 : (dNew g0 ty1168 4 [[.nils, .nils, .nils, .nils]])[h.length]? = some (.row ty1168 4 [[.nils, .nils, .nils, .nils]]) := by rw [dNew_old _ _ _ _ (by omega)]; exact a0
  have k1 : ∀ q, q < h.length → (dNew g0 ty1168 4 [[.nils, .nils, .nils, .nils]])[q]? = h[q]? := fun q hq => by rw [dNew_old _ _ _ _ (by omega)]; exact k0 q hq
  have n1 : (dNew g0 ty1168 4 [[.nils, .nils, .nils, .nils]]).length = h.length + 2 := by simp [-Option.bind_some, dNew, n0]
  rw [n0]
  generalize dNew g0 ty1168 4 [[.nils, .nils, .nils, .nils]] = g1 at *
  refine wst1168 (off := 0) (v := .agg [kd, .nils, .nils, .nils]) a1 (by rfl) (by rfl) (by show 0 + 4 ≤ 4; omega) (okv4 (slof_one hk) rfl rfl rfl) fun g2 p2 s2 => ?_
  have p2 : g2[h.length + 1]? = some (.row ty1168 4 [[kd, .nils, .nils, .nils]]) := p2
  have q2 : g2[h.length]? = some (.row ty1168 4 [[.nils, .nils, .nils, .nils]]) := by rw [s2.2 _ (by omega)]; exact b1
  have k2 : ∀ q, q < h.length → g2[q]? = h[q]? := fun q hq => by rw [s2.2 q (by omega)]; exact k1 q hq
  have n2 : g2.length = h.length + 2 := by rw [s2.1, n1]
  try simp only [bs, Option.bind_assoc]
  refine Wp.loop (fun k ds g => (k = 1 ∧ nth 0 ds = .int .i64 0 ∧ g = g2) ∨ (k = 0 ∧ nth 0 ds = .int .i64 1 ∧ FinP h (keyE ns e) kd e.a6 g))
    (fun r => r.1 = .ext 0 ∧ FinP h (keyE ns e) kd e.a6 r.2.2) 1 (.inl ⟨rfl, rfl, rfl⟩) ?_ ?_
  · rintro k ds g (⟨rfl, hds, rfl⟩ | ⟨rfl, hds, hfin⟩)
    · have d0 : decide ((0 : Int) < 1) = true := by decide
      have q6 : dFieldAddr tab ty31 6 (.fptr (evr e)) = some (.fptr [.int .i64 e.a6, .str e.s7, .str e.s8, e.fd]) := id rfl
      have l6 : ∀ g, dLoad tab g ty3 (.fptr [.int .i64 e.a6, .str e.s7, .str e.s8, e.fd]) = some (.int .i64 e.a6) := fun g => id rfl
      have lse : ∀ g, dLoad tab g ty9 (.fptr [.str []]) = some (.str []) := fun g => id rfl
      simp only [F1191_L0, hds, bs, Option.bind_assoc, aggd_len, dBin_lss, d0, dIf_bool, if_true, aggd_ix, agg_ld, agg_box, hL, agg_f1, lse, s1196 e g h0 h9 hf, dExtract_tup, List.getElem?_cons_zero, List.getElem?_cons_succ, agg_f0, agg_l0, dBin_eql, decide_true, q6, l6, unblk_nrm, toEnd_nrm, nth_zero, nth_succ, fap1168_1, fap1168_2, fap1168_3, bs82_1, bs1165_1, bs1166_1 .nils rfl, Nat.zero_add]
      refine put3 p2 (n0 := h.length + 2) (by omega) (by omega) e.a6 true .nils rfl fun g' x1 x2 x3 r1 r2 r3 r4 r5 r6 => ?_
      have w1 : IntKind.wrap .i64 ((0 : Int) + 1) = 1 := by decide
      simp only [bs, dBin_add, w1]
      exact .some (.inl ⟨rfl, 0, by omega, .inr ⟨rfl, rfl, x1, x2, x3, by rw [r6 _ (by omega) (by omega)]; exact q2, r1, r2, r3, r4, fun q hq => by rw [r6 q (by omega) (by omega)]; exact k2 q hq⟩⟩)
    · have d0 : decide ((1 : Int) < 1) = false := by decide
      simp only [F1191_L0, hds, bs, Option.bind_assoc, aggd_len, dBin_lss, d0, dIf_bool, Bool.false_eq_true, if_false]
      exact .some (.inr ⟨by simp [-Option.bind_some], rfl, hfin⟩)
  · rintro ⟨ex, ds, g⟩ ⟨rfl, hfin⟩
    simp only [unblk_self, toEnd_nrm, bs, Option.bind_assoc]
    exact fin_end hk hkl hfin fun pt p1 p2 => ⟨rfl, pt, rfl, p1, p2⟩
theorem ptF0 (p : Pt) : dFieldAddr tab ty1168 0 (.fptr (ptr' p)) = some (.fptr (ptr' p)) := id rfl
theorem ptF1 (p : Pt) : dFieldAddr tab ty1168 1 (.fptr (ptr' p)) = some (.fptr [p.td, p.sd, p.vd]) := id rfl
theorem ptF2 (p : Pt) : dFieldAddr tab ty1168 2 (.fptr (ptr' p)) = some (.fptr [p.sd, p.vd]) := id rfl
theorem ptL (p : Pt) (h : Hp) : dLoad tab h ty1168 (.fptr (ptr' p)) = some (.agg (ptr' p)) := id rfl
theorem ptL0 (p : Pt) (h : Hp) : dLoad tab h ty98 (.fptr (ptr' p)) = some p.kd := by
  have h1 := slof_one p.hk
  show dLoad tab h ty98 (.fptr [p.kd, p.td, p.sd, p.vd]) = _
  generalize p.kd = a at h1
  cases a <;> first | rfl | (simp [-Option.bind_some, D.one] at h1)
theorem ptL1 (p : Pt) (h : Hp) : dLoad tab h ty82 (.fptr [p.td, p.sd, p.vd]) = some p.td := by
  have h1 := slof_one p.ht
  generalize p.td = a at h1
  cases a <;> first | rfl | (simp [-Option.bind_some, D.one] at h1)
theorem ptL2 (p : Pt) (h : Hp) : dLoad tab h ty1165 (.fptr [p.sd, p.vd]) = some p.sd := by
  have h1 := slof_one p.hs
  generalize p.sd = a at h1
  cases a <;> first | rfl | (simp [-Option.bind_some, D.one] at h1)
theorem ptT (p : Pt) : dIndexAddr tab ty82 p.td (.int .i64 0) = some (.fptr [.int .i64 p.tot]) := by rw [ixs82 p.ht]; rfl
theorem ptS (p : Pt) : dIndexAddr tab ty1165 p.sd (.int .i64 0) = some (.fptr [.bool true]) := by rw [ixs1165 p.hs]; rfl
theorem boo_ld (b : Bool) (h : Hp) : dLoad tab h ty4 (.fptr [.bool b]) = some (.bool b) := id rfl
theorem s1194 (a b : Pt) (h : Hp) : ∃ pt : Pt, R fn1194 [aggd, .agg (ptr' a), .agg (ptr' b)] h = some (.agg (ptr' pt), h) ∧ pt.k = a.k ∧ pt.tot = IntKind.wrap .i64 (a.tot + b.tot) := by
  suffices Wp (R fn1194 [aggd, .agg (ptr' a), .agg (ptr' b)] h) (fun p => p.2 = h ∧ ∃ pt : Pt, p.1 = .agg (ptr' pt) ∧ pt.k = a.k ∧ pt.tot = IntKind.wrap .i64 (a.tot + b.tot)) by
    obtain ⟨⟨x, h'⟩, h1, rfl, pt, rfl, h2⟩ := this
    exact ⟨pt, h1, h2⟩
  rw [e1194]
  simp only [F1194, pBoxF_agg, bs, Option.bind_assoc, ptF0, ptL0, bd1168_0 a.kd (slof_one a.hk)]
  have a0 : (dNew h ty1168 4 [[.nils, .nils, .nils, .nils]])[h.length]? = some (.row ty1168 4 [[.nils, .nils, .nils, .nils]]) := dNew_get _ _ _ _
  have k0 : ∀ q, q < h.length → (dNew h ty1168 4 [[.nils, .nils, .nils, .nils]])[q]? = h[q]? := fun q hq => dNew_old _ _ _ _ hq
  have n0 : (dNew h ty1168 4 [[.nils, .nils, .nils, .nils]]).length = h.length + 1 := by simp [-Option.bind_some, dNew]
  generalize dNew h ty1168 4 [[.nils, .nils, .nils, .nils]] = g0 at *
  have a1 : (dNew g0 ty1168 4 [[.nils, .nils, .nils, .nils]])[h.length + 1]? = some (.row ty1168 4 [[.nils, .nils, .nils, .nils]]) := by rw [← n0]; exact dNew_get _ _ _ _
  have b1 : (dNew g0 ty1168 4 [[.nils, .nils, .nils, .nils]])[h.length]? = some (.row ty1168 4 [[.nils, .nils, .nils, .nils]]) := by rw [dNew_old _ _ _ _ (by omega)]; exact a0
  have k1 : ∀ q, q < h.length → (dNew g0 ty1168 4 [[.nils, .nils, .nils, .nils]])[q]? = h[q]? := fun q hq => by rw [dNew_old _ _ _ _ (by omega)]; exact k0 q hq
  have n1 : (dNew g0 ty1168 4 [[.nils, .nils, .nils, .nils]]).length = h.length + 2 := by simp [-Option.bind_some, dNew, n0]
  rw [n0]
  generalize dNew g0 ty1168 4 [[.nils, .nils, .nils, .nils]] = g1 at *
  refine wst1168 (off := 0) (v := .agg [a.kd, .nils, .nils, .nils]) a1 (by rfl) (by rfl) (by show 0 + 4 ≤ 4; omega) (okv4 (slof_one a.hk) rfl rfl rfl) fun g2 p2 s2 => ?_
  have p2 : g2[h.length + 1]? = some (.row ty1168 4 [[a.kd, .nils, .nils, .nils]]) := p2
  have q2 : g2[h.length]? = some (.row ty1168 4 [[.nils, .nils, .nils, .nils]]) := by rw [s2.2 _ (by omega)]; exact b1
  have k2 : ∀ q, q < h.length → g2[q]? = h[q]? := fun q hq => by rw [s2.2 q (by omega)]; exact k1 q hq
  have n2 : g2.length = h.length + 2 := by rw [s2.1, n1]
  try simp only [bs, Option.bind_assoc]
  refine Wp.loop (fun k ds g => (k = 1 ∧ nth 0 ds = .int .i64 0 ∧ g = g2) ∨ (k = 0 ∧ nth 0 ds = .int .i64 1 ∧ FinP h a.k a.kd (IntKind.wrap .i64 (a.tot + b.tot)) g))
    (fun r => r.1 = .ext 0 ∧ FinP h a.k a.kd (IntKind.wrap .i64 (a.tot + b.tot)) r.2.2) 1 (.inl ⟨rfl, rfl, rfl⟩) ?_ ?_
  · rintro k ds g (⟨rfl, hds, rfl⟩ | ⟨rfl, hds, hfin⟩)
    · have d0 : decide ((0 : Int) < 1) = true := by decide
      simp only [F1194_L0, hds, bs, Option.bind_assoc, aggd_len, dBin_lss, d0, dIf_bool, if_true, ptF1, ptL1, ptT, inr_ld, ptF2, ptL2, ptS, boo_ld, gd_bool, Bool.true_eq_false, reduceCtorEq, if_false, dPick_bool, aggd_ix, agg_f0, agg_l0, dBin_eql, decide_true, toEnd_nrm, nth_zero, nth_succ, dBin_add, unblk_nrm, fap1168_1, fap1168_2, fap1168_3, bs82_1, bs1165_1, bs1166_1 .nils rfl, Nat.zero_add]
      refine put3 p2 (n0 := h.length + 2) (by omega) (by omega) _ true .nils rfl fun g' x1 x2 x3 r1 r2 r3 r4 r5 r6 => ?_
      have w1 : IntKind.wrap .i64 ((0 : Int) + 1) = 1 := by decide
      simp only [bs, dBin_add, w1]
      exact .some (.inl ⟨rfl, 0, by omega, .inr ⟨rfl, rfl, x1, x2, x3, by rw [r6 _ (by omega) (by omega)]; exact q2, r1, r2, r3, r4, fun q hq => by rw [r6 q (by omega) (by omega)]; exact k2 q hq⟩⟩)
    · have d0 : decide ((1 : Int) < 1) = false := by decide
      simp only [F1194_L0, hds, bs, Option.bind_assoc, aggd_len, dBin_lss, d0, dIf_bool, Bool.false_eq_true, if_false]
      exact .some (.inr ⟨by simp [-Option.bind_some], rfl, hfin⟩)
  · rintro ⟨ex, ds, g⟩ ⟨rfl, hfin⟩
    simp only [unblk_self, toEnd_nrm, bs, Option.bind_assoc]
    exact fin_end a.hk a.hkl hfin fun pt p1 p2 => ⟨rfl, pt, rfl, p1, p2⟩
/-- What is appended to nothing and put away. -/
theorem aft_own {α : Type} {f : α → List D} {l : List α} {h' : Hp} {n0 e z : Nat} {x' : D} (ow : Own h' n0 e z (l.map f) x') (hf : ∀ a ∈ l, ∀ (n0 : Nat) (h : Hp), ∀ d ∈ f a, frz n0 h 2 d = d) : SlOf z f l (aftW (x', h')).1 ∧ h'.length ≤ (aftW (x', h')).2.length ∧ ∀ q, q < n0 → (aftW (x', h')).2[q]? = h'[q]? := by
  rcases ow with ⟨rfl, hn⟩ | ⟨o, ho, rfl, hg⟩
  · exact ⟨.inl ⟨rfl, by simpa [-Option.bind_some] using hn⟩, Nat.le_refl _, fun _ _ => rfl⟩
  · have e : aftW (.msl z o 0 (l.map f).length, h') = (frz o h' 3 (.msl z o 0 (l.map f).length), offFrom o h') := rfl
    rw [e]
    have ow2 : Own h' o _ z (l.map f) (.msl z o 0 (l.map f).length) := .inr ⟨o, Nat.le_refl _, rfl, hg⟩
    have hlt := (List.getElem?_eq_some_iff.1 hg).1
    refine ⟨own_sl ow2 (Nat.le_refl _) fun a ha d hd => hf a ha _ _ d hd, by simp [-Option.bind_some, offFrom]; omega, fun q hq => ?_⟩
    unfold offFrom
    rw [List.getElem?_append_left (by simp [-Option.bind_some]; omega), List.getElem?_take, if_pos (by omega)]
/-- What a partial says. -/
def pc (p : Pt) : List Str × Int := (p.k, p.tot)
/-- One count is merged into counts in order. -/
def mgP : List (List Str × Int) → List Str × Int → List (List Str × Int)
  | [], x => [x]
  | y :: r, x => if kcmp y.1 x.1 < 0 then y :: mgP r x else if kcmp y.1 x.1 > 0 then x :: y :: r else (y.1, IntKind.wrap .i64 (y.2 + x.2)) :: r
theorem mgP_len : ∀ (l : List (List Str × Int)) (x : List Str × Int), (mgP l x).length ≤ l.length + 1
  | [], x => by simp [-Option.bind_some, mgP]
  | y :: r, x => by
    have := mgP_len r x
    unfold mgP
    split
    · simp [-Option.bind_some]; exact this
    · split <;> simp [-Option.bind_some]
theorem ptr_frz (n0 : Nat) (h : Hp) (n : Nat) (p : Pt) : ∀ d ∈ ptr' p, frz n0 h (n + 1) d = d := fun d hd => by
  simp only [ptr', List.mem_cons, List.not_mem_nil, or_false] at hd
  rcases hd with rfl | rfl | rfl | rfl
  · exact str_frz _ _ _ p.hk
  · exact inr_frz _ _ _ p.ht
  · exact slof_frz p.hs fun a _ x hx => by simp [-Option.bind_some] at hx; subst hx; exact frz_bool _ _ _ _
  · exact slof_frz p.hv fun a ha x hx => by simp [-Option.bind_some] at ha hx; subst hx; subst ha; exact frz_nils _ _ _
theorem ptr_okd (n : Nat) (p : Pt) : ∀ d ∈ ptr' p, Ok n d := fun d hd => by
  simp only [ptr', List.mem_cons, List.not_mem_nil, or_false] at hd
  rcases hd with rfl | rfl | rfl | rfl
  · exact str_ok _ p.hk
  · exact inr_ok _ p.ht
  · exact slof_ok p.hs fun a _ x hx => by simp [-Option.bind_some] at hx; subst hx; exact .bool _
  · exact slof_ok p.hv fun a ha x hx => by simp [-Option.bind_some] at ha hx; subst hx; subst ha; exact .nils
theorem pt_lit (p : Pt) : pLitF tab ty1156 1 [0] [.agg (ptr' p)] = some (.sl 4 true [ptr' p]) := bs1156_1 _ _ _ _
/-- Merge, with one that is new. -/
theorem s1190 (A : List Pt) (x : Pt) (da dx : D) (h : Hp) (hA : SlOf 4 ptr' A da) (hx : SlOf 4 ptr' [x] dx) (hl : A.length ≤ 100000) : ∃ (P : List Pt) (d' : D), R fn1190 [aggd, da, dx] h = some (d', h) ∧ SlOf 4 ptr' P d' ∧ P.map pc = mgP (A.map pc) (pc x) := by
  suffices Wp (R fn1190 [aggd, da, dx] h) (fun p => p.2 = h ∧ ∃ P : List Pt, SlOf 4 ptr' P p.1 ∧ P.map pc = mgP (A.map pc) (pc x)) by
    obtain ⟨⟨y, h'⟩, h1, rfl, P, h2, h3⟩ := this
    exact ⟨P, y, h1, h2, h3⟩
  rw [e1190]
  simp only [F1190, bs, Option.bind_assoc]
  obtain ⟨V, hV⟩ : ∃ V, V = mgP (A.map pc) (pc x) := ⟨_, rfl⟩
  rw [← hV]
  have hVl : V.length ≤ A.length + 1 := by rw [hV]; have := mgP_len (A.map pc) (pc x); simpa [-Option.bind_some] using this
  refine Wp.loop (fun n ds g => ∃ d0 c3 c4 c5 c6 c7 c8, ∃ (i k : Nat) (O : List Pt), ds = [d0, .int .i64 (i : Int), .int .i64 (k : Int), c3, c4, c5, c6, c7, c8] ∧ n + i + k = A.length + 1 ∧ i ≤ A.length ∧ Own g h.length ty1168 4 (O.map ptr') d0 ∧ h.length ≤ g.length ∧ (∀ q, q < h.length → g[q]? = h[q]?) ∧ O.length ≤ i + k ∧
      ((k = 0 ∧ V = O.map pc ++ mgP ((A.drop i).map pc) (pc x)) ∨ (k = 1 ∧ V = O.map pc ++ (A.drop i).map pc)))
    (fun r => r.1 = .ext 0 ∧ ∃ d0, nth 0 r.2.1 = d0 ∧ ∃ O : List Pt, Own r.2.2 h.length ty1168 4 (O.map ptr') d0 ∧ h.length ≤ r.2.2.length ∧ (∀ q, q < h.length → r.2.2[q]? = h[q]?) ∧ V = O.map pc) (A.length + 1)
    ⟨_, _, _, _, _, _, _, 0, 0, [], rfl, by omega, by omega, Own.nils _ _ _ _, Nat.le_refl _, fun _ _ => rfl, by simp [-Option.bind_some], .inl ⟨rfl, by simpa [-Option.bind_some] using hV⟩⟩ ?_ ?_
  · rintro n ds g ⟨d0, c3, c4, c5, c6, c7, c8, i, k, O, rfl, hn, hi, ow, hlen, hq, hO, hst⟩
    have hxlen : ([x] : List Pt).length = 1 := rfl
    have add1 : ∀ m : Nat, m ≤ 200000 → IntKind.wrap .i64 ((m : Int) + 1) = ((m + 1 : Nat) : Int) := fun m hm => by rw [wrap_i64 (by omega) (by omega)]; omega
    have app : ∀ (y : Pt) (g1 : Hp) (_ : g1 = g) (f : D × Hp → Option Out) (Q : Out → Prop), (∀ x9 g2, Own g2 h.length ty1168 4 ((O ++ [y]).map ptr') x9 → h.length ≤ g2.length → (∀ q, q < h.length → g2[q]? = h[q]?) → Wp (f (x9, g2)) Q) → Wp ((dAppend tab g1 ty1156 ty1156 d0 (.sl 4 true [ptr' y])).bind f) Q := fun y g1 hg1 f Q K => by
      subst hg1
      refine wap1156 (n0 := h.length) hlen ow (rowsOf_sl _ _ _ _) (by simp only [List.length_map, List.length_cons, List.length_nil]; omega) fun x9 g2 o2 l2 b2 _ _ => ?_
      exact K x9 g2 (by rw [List.map_append]; exact o2) (by omega) fun q hq' => by rw [b2 q hq']; exact hq q hq'
    have xix : dIndexAddr tab ty1156 dx (.int .i64 ((0 : Nat) : Int)) = some (.fptr (ptr' x)) := by rw [ixs1156 hx]; rfl
    simp only [F1190_L0, nth_zero, nth_succ, bs, Option.bind_assoc, lens1156 hA, lens1156 hx, dBin_lss, hxlen]
    rcases hst with ⟨rfl, hst⟩ | ⟨rfl, hst⟩
    · by_cases hia : i < A.length
      · have d1 : decide ((i : Int) < (A.length : Int)) = true := decide_eq_true (by omega)
        have d3 : decide (((0 : Nat) : Int) = ((1 : Nat) : Int)) = false := by decide
        have d4 : decide ((i : Int) = (A.length : Int)) = false := decide_eq_false (by omega)
        obtain ⟨u, hu⟩ : ∃ u, A[i]? = some u := ⟨_, List.getElem?_eq_getElem hia⟩
        have uix : dIndexAddr tab ty1156 da (.int .i64 (i : Int)) = some (.fptr (ptr' u)) := by rw [ixs1156 hA]; simp [-Option.bind_some, hu]
        rw [drop_cons hu, List.map_cons] at hst
        unfold mgP at hst
        simp only [d1, gd_bool, Bool.true_eq_false, reduceCtorEq, if_false, bs, dPick_bool, if_true, dIf_bool, lens1156 hx, hxlen, dBin_eql, d3, Bool.false_eq_true, lens1156 hA, d4, uix, ptF0, ptL0, xix, s1185 u.k x.k u.kd x.kd g u.hk x.hk u.hkl x.hkl, unblk_nrm, toEnd_nrm, nth_zero, nth_succ, dBin_lss, dBin_gtr]
        by_cases c1 : kcmp u.k x.k < 0
        · rw [if_pos (show kcmp (pc u).1 (pc x).1 < 0 from c1)] at hst
          simp only [c1, decide_true, if_true, uix, ptL, pt_lit, bs]
          try simp only [Option.bind_assoc]
          refine app u g rfl _ _ fun x9 g2 o2 l2 b2 => ?_
          simp only [bs, dBin_add, add1 i (by omega), unblk_nrm, nth_zero, nth_succ]
          exact .some (.inl ⟨rfl, n - 1, by omega, _, _, _, _, _, _, _, i + 1, 0, O ++ [u], rfl, by omega, by omega, o2, l2, b2, by simp [-Option.bind_some]; omega, .inl ⟨rfl, by rw [hst]; simp [-Option.bind_some]⟩⟩)
        · rw [if_neg (show ¬ kcmp (pc u).1 (pc x).1 < 0 from c1)] at hst
          by_cases c2 : kcmp u.k x.k > 0
          · rw [if_pos (show kcmp (pc u).1 (pc x).1 > 0 from c2)] at hst
            simp only [c1, c2, decide_true, decide_false, Bool.false_eq_true, if_false, if_true, xix, ptL, pt_lit, bs]
            try simp only [Option.bind_assoc]
            refine app x g rfl _ _ fun x9 g2 o2 l2 b2 => ?_
            simp only [bs, dBin_add, add1 0 (by omega), unblk_nrm, nth_zero, nth_succ]
            exact .some (.inl ⟨rfl, n - 1, by omega, _, _, _, _, _, _, _, i, 1, O ++ [x], rfl, by omega, by omega, o2, l2, b2, by simp [-Option.bind_some]; omega, .inr ⟨rfl, by rw [hst, drop_cons hu]; simp [-Option.bind_some]⟩⟩)
          · rw [if_neg (show ¬ kcmp (pc u).1 (pc x).1 > 0 from c2)] at hst
            obtain ⟨pt, e1, p1, p2⟩ := s1194 u x g
            simp only [c1, c2, decide_false, Bool.false_eq_true, if_false, uix, xix, ptL, e1, pt_lit, bs]
            try simp only [Option.bind_assoc]
            refine app pt g rfl _ _ fun x9 g2 o2 l2 b2 => ?_
            simp only [bs, dBin_add, add1 0 (by omega), add1 i (by omega), unblk_nrm, nth_zero, nth_succ]
            exact .some (.inl ⟨rfl, n - 2, by omega, _, _, _, _, _, _, _, i + 1, 1, O ++ [pt], rfl, by omega, by omega, o2, l2, b2, by simp [-Option.bind_some]; omega, .inr ⟨rfl, by rw [hst]; simp [-Option.bind_some, pc, p1, p2]⟩⟩)
      · have hia : i = A.length := by omega
        subst hia
        have d1 : decide ((A.length : Int) < (A.length : Int)) = false := decide_eq_false (by omega)
        have d2 : decide (((0 : Nat) : Int) < ((1 : Nat) : Int)) = true := by decide
        have d3 : decide (((0 : Nat) : Int) = ((1 : Nat) : Int)) = false := by decide
        have d4 : decide ((A.length : Int) = (A.length : Int)) = true := decide_eq_true rfl
        have d5 : decide ((1 : Int) < 0) = false := by decide
        have d6 : decide ((1 : Int) > 0) = true := by decide
        rw [List.drop_length] at hst
        have hst : V = O.map pc ++ [pc x] := hst
        simp only [d1, gd_bool, if_true, bs, lens1156 hx, hxlen, dBin_lss, d2, dPick_bool, Bool.false_eq_true, if_false, dIf_bool, dBin_eql, d3, lens1156 hA, d4, decide_true, unblk_nrm, toEnd_nrm, nth_zero, nth_succ, d5, dBin_gtr, d6, xix, ptL, pt_lit]
        try simp only [Option.bind_assoc]
        refine app x g rfl _ _ fun x9 g2 o2 l2 b2 => ?_
        simp only [bs, dBin_add, add1 0 (by omega), unblk_nrm, nth_zero, nth_succ]
        exact .some (.inl ⟨rfl, n - 1, by omega, _, _, _, _, _, _, _, A.length, 1, O ++ [x], rfl, by omega, by omega, o2, l2, b2, by simp [-Option.bind_some]; omega, .inr ⟨rfl, by rw [hst]; simp [-Option.bind_some]⟩⟩)
    · by_cases hia : i < A.length
      · have d1 : decide ((i : Int) < (A.length : Int)) = true := decide_eq_true (by omega)
        have d3 : decide (((1 : Nat) : Int) = ((1 : Nat) : Int)) = true := by decide
        have d5 : decide ((-1 : Int) < 0) = true := by decide
        obtain ⟨u, hu⟩ : ∃ u, A[i]? = some u := ⟨_, List.getElem?_eq_getElem hia⟩
        have uix : dIndexAddr tab ty1156 da (.int .i64 (i : Int)) = some (.fptr (ptr' u)) := by rw [ixs1156 hA]; simp [-Option.bind_some, hu]
        rw [drop_cons hu, List.map_cons] at hst
        simp only [d1, gd_bool, Bool.true_eq_false, reduceCtorEq, if_false, bs, dPick_bool, if_true, dIf_bool, lens1156 hx, hxlen, dBin_eql, d3, decide_true, unblk_nrm, toEnd_nrm, nth_zero, nth_succ, dBin_lss, d5, uix, ptL, pt_lit]
        try simp only [Option.bind_assoc]
        refine app u g rfl _ _ fun x9 g2 o2 l2 b2 => ?_
        simp only [bs, dBin_add, add1 i (by omega), unblk_nrm, nth_zero, nth_succ]
        exact .some (.inl ⟨rfl, n - 1, by omega, _, _, _, _, _, _, _, i + 1, 1, O ++ [u], rfl, by omega, by omega, o2, l2, b2, by simp [-Option.bind_some]; omega, .inr ⟨rfl, by rw [hst]; simp [-Option.bind_some]⟩⟩)
      · have hia : i = A.length := by omega
        subst hia
        have d1 : decide ((A.length : Int) < (A.length : Int)) = false := decide_eq_false (by omega)
        have d2 : decide (((1 : Nat) : Int) < ((1 : Nat) : Int)) = false := by decide
        rw [List.drop_length] at hst
        simp only [d1, gd_bool, if_true, bs, lens1156 hx, hxlen, dBin_lss, d2, dPick_bool, Bool.false_eq_true, if_false, dIf_bool]
        exact .some (.inr ⟨by simp [-Option.bind_some], rfl, _, rfl, O, ow, hlen, hq, by simpa [-Option.bind_some] using hst⟩)
  · rintro ⟨ex, ds, g⟩ ⟨rfl, d0, hd0, O, ow, hlen, hq, hst⟩
    replace hd0 : nth 0 ds = d0 := hd0
    simp only [unblk_self, toEnd_nrm, bs, nth_zero, hd0, mkRes_one]
    have hs := own_sl (n0 := h.length) (n := 3) ow (Nat.le_refl _) fun p _ => ptr_frz _ _ _ p
    have hsc : scope h g d0 = some (frz h.length g 4 d0, h) := scope_eq rfl (slof_ok hs fun p _ => ptr_okd _ p) hlen hq
    rw [hsc]
    exact .some ⟨rfl, O, hs, hst.symm⟩
/-- The counts of events, one after the other. -/
def cntE (ns : List Str) : List Ev → List (List Str × Int)
  | l => l.foldl (fun c e => mgP c (keyE ns e, e.a6)) []
structure CtOK (ns : List Str) (dn : D) : Prop where
  hd : SlOf 1 (fun s => [D.str s]) ns dn
  hl : ns.length ≤ 1000
  hn : ∀ n ∈ ns, nmOK n
theorem s1187 {ns : List Str} {dn : D} (C : CtOK ns dn) (A : List Pt) (da : D) (e : Ev) (h : Hp) (hA : SlOf 4 ptr' A da) (hl : A.length ≤ 100000) (h0 : 0 ≤ e.a0) (h9 : e.a0 ≤ 9) (hf : FsOK e.fs) : ∃ (P : List Pt) (d' : D), R fn1187 [da, dn, aggd, .agg (evr e)] h = some (d', h) ∧ SlOf 4 ptr' P d' ∧ P.map pc = mgP (A.map pc) (keyE ns e, e.a6) := by
  have hL : ∀ g, dLoad tab g ty31 (.fptr (evr e)) = some (.agg (evr e)) := fun g => id rfl
  obtain ⟨pt, e1, p1, p2⟩ := s1191 ns dn e h C.hd C.hl h0 h9 C.hn hf
  obtain ⟨P, d', e2, h2, h3⟩ := s1190 A pt da (.sl 4 true [ptr' pt]) h hA (.inr ⟨true, rfl⟩) hl
  refine ⟨P, d', ?_, h2, by rw [h3]; simp [-Option.bind_some, pc, p1, p2]⟩
  rw [e1187]
  simp only [F1187, pBoxF_agg, bs, hL, e1, pt_lit, e2, mkRes_one]
theorem s1176 {ns : List Str} {dn : D} (C : CtOK ns dn) (l : List Ev) (dl : D) (h : Hp) (hd : SlOf 10 evr l dl) (hl : l.length ≤ 1000) (he : ∀ e ∈ l, 0 ≤ e.a0 ∧ e.a0 ≤ 9 ∧ FsOK e.fs) : ∃ (P : List Pt) (d' : D), R fn1176 [dn, aggd, dl] h = some (d', h) ∧ SlOf 4 ptr' P d' ∧ P.map pc = cntE ns l ∧ P.length ≤ l.length := by
  suffices Wp (R fn1176 [dn, aggd, dl] h) (fun p => p.2 = h ∧ ∃ P : List Pt, SlOf 4 ptr' P p.1 ∧ P.map pc = cntE ns l ∧ P.length ≤ l.length) by
    obtain ⟨⟨y, h'⟩, h1, rfl, P, h2, h3⟩ := this
    exact ⟨P, y, h1, h2, h3⟩
  rw [e1176]
  simp only [F1176, bs, Option.bind_assoc]
  refine Wp.loop (fun n ds g => g = h ∧ ∃ d0 c, ∃ (i : Nat) (P : List Pt), ds = [d0, .int .i64 (i : Int), c] ∧ n + i = l.length ∧ SlOf 4 ptr' P d0 ∧ P.map pc = cntE ns (l.take i) ∧ P.length ≤ i)
    (fun r => r.1 = .ext 0 ∧ r.2.2 = h ∧ ∃ P : List Pt, SlOf 4 ptr' P (nth 0 r.2.1) ∧ P.map pc = cntE ns l ∧ P.length ≤ l.length) l.length ⟨rfl, _, _, 0, [], rfl, rfl, .nils _ _, by simp [-Option.bind_some, cntE], by simp [-Option.bind_some]⟩ ?_ ?_
  · rintro n ds g ⟨rfl, d0, c, i, P, rfl, hn, hP, hc, hPl⟩
    simp only [F1176_L0, nth_zero, nth_succ, bs, Option.bind_assoc, lens40 hd, dBin_lss]
    refine Wp.dif ?_ ?_
    · intro h0
      have h0 : i < l.length := by have : (i : Int) < l.length := by simpa [-Option.bind_some] using h0
                                   omega
      obtain ⟨u, hu⟩ : ∃ u, l[i]? = some u := ⟨_, List.getElem?_eq_getElem h0⟩
      obtain ⟨a1, a2, a3⟩ := he u (List.mem_of_getElem? hu)
      have hw : IntKind.wrap .i64 ((i : Int) + 1) = ((i + 1 : Nat) : Int) := by rw [wrap_i64 (by omega) (by omega)]; omega
      have hix : dIndexAddr tab ty40 dl (.int .i64 (i : Int)) = some (.fptr (evr u)) := by rw [ixs40 hd]; simp [-Option.bind_some, hu]
      have hL : dLoad tab g ty31 (.fptr (evr u)) = some (.agg (evr u)) := id rfl
      obtain ⟨P2, d2, e2, h2, h3⟩ := s1187 C P d0 u g hP (by omega) a1 a2 a3
      have hlen2 : P2.length ≤ i + 1 := by
        have h4 := mgP_len (P.map pc) (keyE ns u, u.a6)
        rw [← h3] at h4
        simp [-Option.bind_some] at h4; omega
      simp only [hix, hL, e2, bs, dBin_add, hw]
      refine .some (.inl ⟨rfl, n - 1, by omega, rfl, _, _, i + 1, P2, rfl, by omega, h2, ?_, hlen2⟩)
      rw [h3, hc, List.take_add_one, hu]
      simp [-Option.bind_some, cntE]
    · intro h0
      have h0 : l.length ≤ i := by have : ¬ (i : Int) < l.length := by simpa [-Option.bind_some] using h0
                                   omega
      rw [List.take_of_length_le h0] at hc
      exact .some (.inr ⟨by simp [-Option.bind_some], rfl, rfl, P, hP, hc, by omega⟩)
  · rintro ⟨ex, ds, g⟩ ⟨rfl, h2, P, hP, hc, hPl⟩
    simp only at h2
    subst h2
    simp only [unblk_self, toEnd_nrm, bs, nth_zero, mkRes_one]
    exact .some ⟨rfl, P, hP, hc, hPl⟩
/-- What the row of a count says. -/
def rowC (c : List Str × Int) : List Str × List Int × Int := (c.1, [c.2], 0)
theorem s1175 (P : List Pt) (da dp : D) (h : Hp) (hP : SlOf 4 ptr' P dp) (hl : P.length ≤ 1000) : ∃ (L : List Rw) (d' : D), R fn1175 [da, dp] h = some (d', h) ∧ SlOf 3 rowr L d' ∧ L.map rcont = (P.map pc).map rowC := by
  suffices Wp (R fn1175 [da, dp] h) (fun p => p.2 = h ∧ ∃ L : List Rw, SlOf 3 rowr L p.1 ∧ L.map rcont = (P.map pc).map rowC) by
    obtain ⟨⟨y, h'⟩, h1, rfl, L, h2, h3⟩ := this
    exact ⟨L, y, h1, h2, h3⟩
  rw [e1175]
  simp only [F1175, bs, Option.bind_assoc]
  refine Wp.loop (fun n ds g => ∃ d0 c, ∃ (i : Nat) (L : List Rw), ds = [d0, .int .i64 (i : Int), c] ∧ n + i = P.length ∧ Own g h.length ty1146 3 (L.map rowr) d0 ∧ h.length ≤ g.length ∧ (∀ q, q < h.length → g[q]? = h[q]?) ∧ L.map rcont = ((P.take i).map pc).map rowC)
    (fun r => r.1 = .ext 0 ∧ ∃ d0, nth 0 r.2.1 = d0 ∧ ∃ L : List Rw, Own r.2.2 h.length ty1146 3 (L.map rowr) d0 ∧ h.length ≤ r.2.2.length ∧ (∀ q, q < h.length → r.2.2[q]? = h[q]?) ∧ L.map rcont = (P.map pc).map rowC) P.length ⟨_, _, 0, [], rfl, rfl, Own.nils _ _ _ _, Nat.le_refl _, fun _ _ => rfl, by simp [-Option.bind_some]⟩ ?_ ?_
  · rintro n ds g ⟨d0, c, i, L, rfl, hn, ow, hlen, hq, hL⟩
    simp only [F1175_L0, nth_zero, nth_succ, bs, Option.bind_assoc, lens1156 hP, dBin_lss]
    refine Wp.dif ?_ ?_
    · intro h0
      have h0 : i < P.length := by have : (i : Int) < P.length := by simpa [-Option.bind_some] using h0
                                   omega
      obtain ⟨u, hu⟩ : ∃ u, P[i]? = some u := ⟨_, List.getElem?_eq_getElem h0⟩
      have hw : IntKind.wrap .i64 ((i : Int) + 1) = ((i + 1 : Nat) : Int) := by rw [wrap_i64 (by omega) (by omega)]; omega
      have uix : dIndexAddr tab ty1156 dp (.int .i64 (i : Int)) = some (.fptr (ptr' u)) := by rw [ixs1156 hP]; simp [-Option.bind_some, hu]
      have hukl := u.hkl
      simp only [uix, ptF0, ptL0, bs]
      refine wap98 (n0 := g.length) (rows := []) (Nat.le_refl _) (.nils _ _ _ _) (slof_rows _ u.hk) (by simp only [List.length_map, List.length_nil]; omega) fun x1 g1 o1 l1 b1 _ _ => ?_
      rw [List.nil_append] at o1
      obtain ⟨s1, m1, c1⟩ := aft_own (f := fun s => [D.str s]) o1 fun a _ n0 h d hd => by simp [-Option.bind_some] at hd; subst hd; exact frz_str _ _ _ _
      generalize aftW (x1, g1) = p1 at s1 m1 c1 ⊢
      obtain ⟨x1, g1'⟩ := p1
      simp only at s1 m1 c1 ⊢
      have k1 : ∀ q, q < g.length → g1'[q]? = g[q]? := fun q hq' => by rw [c1 q hq', b1 q hq']
      try simp only [ptF1, ptL1, bs]
      refine wap82 (n0 := g1'.length) (rows := []) (Nat.le_refl _) (.nils _ _ _ _) (slof_rows _ u.ht) (by simp [-Option.bind_some]) fun x2 g2 o2 l2 b2 _ _ => ?_
      rw [List.nil_append] at o2
      obtain ⟨s2, m2, c2⟩ := aft_own (f := inr) o2 fun a _ n0 h d hd => by simp [-Option.bind_some, inr] at hd; subst hd; exact frz_int _ _ _ _ _
      generalize aftW (x2, g2) = p2 at s2 m2 c2 ⊢
      obtain ⟨x2, g2'⟩ := p2
      simp only at s2 m2 c2 ⊢
      have k2 : ∀ q, q < g.length → g2'[q]? = g[q]? := fun q hq' => by rw [c2 q (by omega), b2 q (by omega), k1 q hq']
      have hb : dBuild tab ty1146 [0, 1] [x1, x2] = some (.agg [x1, x2, .int .i64 0]) := bd1146_0_1 x1 x2 (slof_one s1) (slof_one s2)
      have hlit : pLitF tab ty1144 1 [0] [.agg [x1, x2, .int .i64 0]] = some (.sl 3 true [[x1, x2, .int .i64 0]]) := bs1144_1 _ _ _
      have ow2 : Own g2' h.length ty1146 3 (L.map rowr) d0 := ow.keep fun q hq' hx => k2 q (ow.lt hx).2
      have hLl : L.length ≤ i := by
        have h4 := congrArg List.length hL
        simp [-Option.bind_some] at h4; omega
      try simp only [hb, hlit, bs, Option.bind_assoc]
      refine wap1144 (n0 := h.length) (by omega) ow2 (rowsOf_sl _ _ _ _) (by simp only [List.length_map, List.length_cons, List.length_nil]; omega) fun x3 g3 o3 l3 b3 _ _ => ?_
      have hr : L.map rowr ++ [[x1, x2, .int .i64 0]] = (L ++ [(⟨u.k, x1, s1, u.hkl, [u.tot], x2, s2, by simp [-Option.bind_some], 0⟩ : Rw)]).map rowr := by simp [-Option.bind_some, rowr]
      rw [hr] at o3
      simp only [chk_true, bs, dBin_add, hw]
      refine .some (.inl ⟨rfl, n - 1, by omega, _, _, i + 1, _, rfl, by omega, o3, by show h.length ≤ g3.length; omega, fun q hq' => by rw [b3 q hq', k2 q (by omega)]; exact hq q hq', ?_⟩)
      rw [List.map_append, hL, List.take_add_one, hu]
      simp [-Option.bind_some, rcont, rowC, pc]
    · intro h0
      have h0 : P.length ≤ i := by have : ¬ (i : Int) < P.length := by simpa [-Option.bind_some] using h0
                                   omega
      rw [List.take_of_length_le h0] at hL
      exact .some (.inr ⟨by simp [-Option.bind_some], rfl, _, rfl, L, ow, hlen, hq, hL⟩)
  · rintro ⟨ex, ds, g⟩ ⟨rfl, d0, hd0, L, ow, hlen, hq, hL⟩
    replace hd0 : nth 0 ds = d0 := hd0
    simp only [unblk_self, toEnd_nrm, bs, nth_zero, hd0, mkRes_one]
    have hs := own_sl (n0 := h.length) (n := 3) ow (Nat.le_refl _) fun p _ => rowr_frz _ _ _ p
    have hsc : scope h g d0 = some (frz h.length g 4 d0, h) := scope_eq rfl (slof_ok hs fun p _ => rowr_ok _ p) hlen hq
    rw [hsc]
    exact .some ⟨rfl, L, hs, hL⟩
theorem s1170 {ns : List Str} {dn : D} (C : CtOK ns dn) (l : List Ev) (dl : D) (h : Hp) (hd : SlOf 10 evr l dl) (hl : l.length ≤ 1000) (he : ∀ e ∈ l, 0 ≤ e.a0 ∧ e.a0 ≤ 9 ∧ FsOK e.fs) : ∃ (L : List Rw) (d' : D), R fn1170 [dn, dl] h = some (d', h) ∧ SlOf 3 rowr L d' ∧ L.map rcont = (cntE ns l).map rowC ∧ L.length ≤ l.length := by
  obtain ⟨P, dp, e1, h1, h2, h3⟩ := s1176 C l dl h hd hl he
  obtain ⟨L, d', e2, h4, h5⟩ := s1175 P aggd dp h h1 (by omega)
  refine ⟨L, d', ?_, h4, by rw [h5, h2], ?_⟩
  · have hag : (D.sl 2 true [[.int .i64 0, .str []]]) = aggd := rfl
    rw [e1170]
    simp only [F1170, bs, bd1153_, bs1154_1, hag, e1, e2, mkRes_one]
  · have h6 := congrArg List.length h5
    simp [-Option.bind_some] at h6; omega
theorem app_lit {T : Tab} {t e : Nat} {i j : TI} (ht : T t = Option.some i) (hi : i.td = .sl e) (he : T e = Option.some j) (hz : 0 < j.sz) {h : Hp} {rows ys : List (List D)} {y : D} (hy : dRowsOf h j.sz y = Option.some ys) (hl : lim (rows.length + ys.length) j.by_ = true) (hne : ys ≠ []) :
    ∃ x' h', dAppend T h t t (.sl j.sz true rows) y = Option.some (x', h') ∧ h.length ≤ h'.length ∧ (∀ q, q < h.length → h'[q]? = h[q]?) ∧ Own h' h.length e j.sz (rows ++ ys) x' := by
  have hz' : Nat.blt 0 j.sz = true := Nat.ble_eq_true_of_le hz
  have hs : dSrc h i j y = Option.some ys := by simp [-Option.bind_some, dSrc, hi, hy]
  unfold dAppend
  simp only [ht, hi, he, hz', hs]
  cases ys with
  | nil => exact absurd rfl hne
  | cons y1 yr =>
    simp only [hl, and_self, if_true, true_and]
    exact ⟨_, _, rfl, by simp [-Option.bind_some, dNew], fun q hq => by simp only [dNew]; rw [List.getElem?_append_left hq], .inr ⟨h.length, Nat.le_refl _, by simp [-Option.bind_some], by simp [-Option.bind_some, dNew]⟩⟩
theorem d1186 {h : Hp} {o : Nat} (hc : CD h o) : ∃ s h', R fn1186 [.ptr o 0 0] h = some (.str s, h') ∧ CD h' o ∧ Same o h h' ∧ s ∈ lt98_46 := by
  obtain ⟨v, h', h1, h2, h3, h4, h5⟩ := next_b hc 4 (by omega) (by omega)
  obtain ⟨s, hs, hg⟩ := pick_of lt98_46 v h4 h5
  refine ⟨s, h', ?_, h2, h3, hs⟩
  rw [e1186]; simp [-Option.bind_some, F1186, h1, h4, hg]
end Go.Proofs.Yteglojieneaojaa
