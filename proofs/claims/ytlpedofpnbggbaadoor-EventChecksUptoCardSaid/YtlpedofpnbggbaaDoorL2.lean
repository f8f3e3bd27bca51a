/- Laws, on plain data, about functions that the statement reaches. -/
import Derived.Test.YtlpedofpnbggbaaDoorL1
set_option linter.unusedSimpArgs false
set_option linter.unusedVariables false
set_option linter.unnecessarySimpa false
set_option maxRecDepth 100000
namespace Go.Proofs.YtlpedofpnbggbaaDoor
open Go.Eng Go.Pi
open Option (bind_some)
theorem s1040 (i : It) (m : Int) (h : Hp) (hl : i.e.ls.length ≤ 1000000) : ∃ j ok, R fn1040 [.agg (itr i), .int .i64 m] h = some (.tup [.agg (itr j), .bool ok], h) ∧ AftOf i m ok j := by
  suffices Wp (R fn1040 [.agg (itr i), .int .i64 m] h) (fun p => p.2 = h ∧ ∃ j ok, p.1 = .tup [.agg (itr j), .bool ok] ∧ AftOf i m ok j) by
    obtain ⟨⟨x, h'⟩, h1, rfl, j, ok, rfl, h2⟩ := this
    exact ⟨j, ok, h1, h2⟩
  rw [e1040]
  simp only [F1040, bs, Option.bind_assoc, pBoxF_int]
  rw [wBox_agg ty74 11 h (itr i) rfl (by omega)]
  generalize hg0 : dNew h ty74 11 [itr i] = g0
  have hgl : g0.length = h.length + 1 := by rw [← hg0]; exact new_len _ _ _ _
  have hb : ∀ q, q < h.length → g0[q]? = h[q]? := fun q hq => by rw [← hg0]; exact new_old _ _ _ _ hq
  have p8 : g0[h.length]? = some (Ob.row ty74 11 [itr i]) := by rw [← hg0]; exact new_get _ _ _ _
  clear hg0
  simp only [bs, hgl]
  generalize hg1 : dNew g0 ty74 11 [[.str [], .int .i64 0, .int .i64 0, .int .i64 0, .int .i64 0, .nils, .int .i64 0, .int .i64 0, .str [], .str [], .nils]] = g1
  have hgl1 : g1.length = h.length + 2 := by rw [← hg1, new_len]; omega
  have hb1 : ∀ q, q < h.length + 1 → g1[q]? = g0[q]? := fun q hq => by rw [← hg1]; exact new_old _ _ _ _ (by omega)
  have p9 : g1[h.length + 1]? = some (Ob.row ty74 11 [[.str [], .int .i64 0, .int .i64 0, .int .i64 0, .int .i64 0, .nils, .int .i64 0, .int .i64 0, .str [], .str [], .nils]]) := by
    rw [← hg1, ← hgl]; exact new_get _ _ _ _
  replace p8 := (hb1 h.length (by omega)).trans p8
  replace hb : ∀ q, q < h.length → g1[q]? = h[q]? := fun q hq => (hb1 q (by omega)).trans (hb q hq)
  clear hg1 hb1 hgl
  have r8 : g1.row h.length 0 = some [.str i.r, .int .i64 i.e.a0, .int .i64 i.e.a1, .int .i64 i.e.a2, .int .i64 i.e.a3, i.e.ld, .int .i64 i.e.a5, .int .i64 i.e.a6, .str i.e.s7, .str i.e.s8, i.e.fd] := row_of p8
  simp only [ld3, fap74_1, fap31_2, fap31_3, fap31_4, bs, ldp3, ldp28, r8, List.drop_succ_cons, List.drop_zero, List.head?_cons, Nat.zero_add, dBin_leq]
  refine Wp.dif ?_ ?_
  · intro hm
    have hm : m ≤ i.e.a2 := by simpa using hm
    simp only [ldIt11 p8, bs]
    refine wst74 p9 (by rfl) (by rfl) (by simp) (by rfl) fun g2 q9 s2 => ?_
    replace q9 : g2[h.length + 1]? = some (Ob.row ty74 11 [itr i]) := q9
    simp only [ldIt11 q9, bs, mkRes_two]
    rw [end_it (by have := s2.1; omega) (fun q hq => (s2.2 q (by omega)).trans (hb q hq))]
    exact .some ⟨rfl, i, true, rfl, .inl ⟨hm, rfl, rfl⟩⟩
  · intro hm
    have hm : ¬ m ≤ i.e.a2 := by simpa using hm
    rw [s1006 i.e.ls i.e.ld (.fn (.func fn1044) [] [.fptr [.int .i64 m]]) (fun l => decide (m ≤ l.off)) g1 i.e.hld i.e.hll (fun x => by rw [callV_some]; exact s1044 x m g1)]
    have hfil := idx_fil (fun l : Lin => decide (m ≤ l.off)) i.e.ls 0
    generalize idx (fun l : Lin => decide (m ≤ l.off)) 0 i.e.ls = kk at hfil
    simp only [bs, ldp3, r8, List.drop_succ_cons, List.drop_zero, List.head?_cons, dBin_geq, dBin_lss]
    have fail : (i.e.a3 ≤ m ∨ ∀ l ∈ i.e.ls, l.off < m) → Wp ((dBuild tab ty74 [] []).bind fun t27 => (dStore tab g1 ty74 (.ptr (h.length + 1) 0 0) t27).bind fun h' => (dLoad tab h' ty74 (.ptr (h.length + 1) 0 0)).bind fun d => scope h h' (mkRes [d, .bool false])) (fun p : D × Hp => p.2 = h ∧ ∃ j ok, p.1 = .tup [.agg (itr j), .bool ok] ∧ AftOf i m ok j) := fun hc => by
      simp only [bd74_, bs]
      refine wst74 p9 (by rfl) (by rfl) (by simp) (by rfl) fun g2 q9 s2 => ?_
      replace q9 : g2[h.length + 1]? = some (Ob.row ty74 11 [itr it0]) := q9
      simp only [ldIt11 q9, bs, mkRes_two]
      rw [end_it (by have := s2.1; omega) (fun q hq => (s2.2 q (by omega)).trans (hb q hq))]
      exact .some ⟨rfl, it0, false, rfl, .inr (.inl ⟨hm, hc, rfl, rfl⟩)⟩
    by_cases hto : i.e.a3 ≤ m
    · simp only [hto, decide_true, gd_bool, reduceCtorEq, if_false, if_true, Bool.true_eq_false, bs, dPick_bool, dIf_bool]
      exact fail (.inl hto)
    by_cases hk0 : kk < 0
    · simp only [hto, hk0, decide_true, decide_false, gd_bool, if_true, Bool.false_eq_true, if_false, dBin_lss, bs, dPick_bool, dIf_bool]
      refine fail (.inr fun l hl => ?_)
      rcases hfil with ⟨_, h2⟩ | ⟨k, h1, _⟩
      · have := h2 l hl
        simp at this; omega
      · omega
    obtain ⟨k, hk, hkl, hex⟩ : ∃ k, kk = ((0 + k : Nat) : Int) ∧ k < i.e.ls.length ∧ ∃ l ∈ i.e.ls, m ≤ l.off := by
      rcases hfil with ⟨h1, _⟩ | ⟨k, h1, h2, _, y, hy, hy2⟩
      · omega
      · exact ⟨k, h1, h2, y, hy, by simpa using hy2⟩
    simp only [hto, hk0, decide_false, gd_bool, if_true, Bool.false_eq_true, if_false, dBin_lss, bs, dPick_bool, dIf_bool, ldp28, r8, List.drop_succ_cons, List.drop_zero, List.head?_cons]
    obtain ⟨d1, g2, e2, hl2, hb2, hd1⟩ := u1008 i.e.ls i.e.ld g1 i.e.hld hl
    rcases hd1 with ⟨h0, _⟩ | ⟨ob, hob, rfl, ho⟩
    · rw [h0] at hkl; simp at hkl
    obtain ⟨g3, z, e3, s3, p3⟩ := u1045 i.e.ls (.fn (.func fn1046) [] [.fptr [.int .i64 m]]) (fun l => decide (l.off < m)) g2 ob ho hl (fun x g => by rw [callV_some]; exact s1046 x m g)
    have hfe : (i.e.ls.filter fun x => !decide (x.off < m)) = i.e.ls.filter fun x => decide (m ≤ x.off) := by
      congr 1; funext x
      by_cases hx : x.off < m
      · have : ¬ m ≤ x.off := by omega
        simp [-bind_some, hx, this]
      · have : m ≤ x.off := by omega
        simp [-bind_some, hx, this]
    simp only [hfe] at e3 p3
    generalize hks : i.e.ls.filter (fun x => decide (m ≤ x.off)) = ks at e3 p3
    have hkne : ∃ x r, ks = x :: r := by
      obtain ⟨l, hl1, hl2⟩ := hex
      have : l ∈ ks := by rw [← hks]; exact List.mem_filter.2 ⟨hl1, by simpa using hl2⟩
      cases ks with
      | nil => simp at this
      | cons x r => exact ⟨x, r, rfl⟩
    have hkle : ks.length ≤ i.e.ls.length := by rw [← hks]; exact List.length_filter_le _ _
    simp only [e2, e3, bs]
    replace p8 := ((s3.2 h.length (by omega)).trans (hb2 h.length (by omega))).trans p8
    replace p9 := ((s3.2 (h.length + 1) (by omega)).trans (hb2 (h.length + 1) (by omega))).trans p9
    replace hb : ∀ q, q < h.length → g3[q]? = h[q]? := fun q hq => ((s3.2 q (by omega)).trans (hb2 q (by omega))).trans (hb q hq)
    have hgl3 : h.length + 2 ≤ g3.length := by have := s3.1; omega
    clear r8 e2 e3 s3 hb2 ho hl2
    refine wst28 p8 (by rfl) (by rfl) (by simp [-bind_some, itr, evr]) (by rfl) fun g4 q8 t4 => ?_
    replace q8 : g4[h.length]? = some (Ob.row ty74 11 [[.str i.r, .int .i64 i.e.a0, .int .i64 i.e.a1, .int .i64 i.e.a2, .int .i64 i.e.a3, .msl 3 ob 0 ks.length, .int .i64 i.e.a5, .int .i64 i.e.a6, .str i.e.s7, .str i.e.s8, i.e.fd]]) := q8
    replace p9 := (t4.2 (h.length + 1) (by omega)).trans p9
    replace p3 := (t4.2 ob (by omega)).trans p3
    have r8 : g4.row h.length 0 = some [.str i.r, .int .i64 i.e.a0, .int .i64 i.e.a1, .int .i64 i.e.a2, .int .i64 i.e.a3, .msl 3 ob 0 ks.length, .int .i64 i.e.a5, .int .i64 i.e.a6, .str i.e.s7, .str i.e.s8, i.e.fd] := row_of q8
    obtain ⟨x, r, hxr⟩ := hkne
    have hix : (0 : Int) ≤ 0 ∧ (0 : Int) < (ks.length : Int) := by rw [hxr]; simp [-bind_some]
    have hrx : g4.row ob 0 = some [.int .i64 x.off, .int .i64 x.len, .str x.txt] := by rw [row_of p3, hxr]; rfl
    simp only [bs, ldp28, r8, List.drop_succ_cons, List.drop_zero, List.head?_cons, ixm28, hix, and_self, if_true, Nat.zero_add, Int.toNat_zero, fap78_0, ldp3, hrx]
    refine wst3 q8 (by rfl) (by rfl) (by simp) (by rfl) fun g5 q8' t5 => ?_
    replace q8 : g5[h.length]? = some (Ob.row ty74 11 [[.str i.r, .int .i64 i.e.a0, .int .i64 i.e.a1, .int .i64 x.off, .int .i64 i.e.a3, .msl 3 ob 0 ks.length, .int .i64 i.e.a5, .int .i64 i.e.a6, .str i.e.s7, .str i.e.s8, i.e.fd]]) := q8'
    replace t4 := t4.trans t5
    replace p9 := (t5.2 (h.length + 1) (by omega)).trans p9
    replace p3 := (t5.2 ob (by omega)).trans p3
    clear q8' t5 r8 hrx
    simp only [ldob11 q8 rfl, bs]
    refine wst74 p9 (by rfl) (by rfl) (by simp) (by rfl) fun g6 q9 t6 => ?_
    replace q9 : g6[h.length + 1]? = some (Ob.row ty74 11 [[.str i.r, .int .i64 i.e.a0, .int .i64 i.e.a1, .int .i64 x.off, .int .i64 i.e.a3, .msl 3 ob 0 ks.length, .int .i64 i.e.a5, .int .i64 i.e.a6, .str i.e.s7, .str i.e.s8, i.e.fd]]) := q9
    replace p3 := (t6.2 ob (by omega)).trans p3
    simp only [ldob11 q9 rfl, bs, mkRes_two]
    have hsl : SlOf 3 linr ks (.sl 3 false (ks.map linr)) := .mk _ _ _ _
    have hfz : frz h.length g6 2 (.msl 3 ob 0 ks.length) = .sl 3 false (ks.map linr) := by
      rw [frz_msl (by omega) p3, List.drop_zero, List.take_left' (by simp), map_id_of fun row hrow => by
        obtain ⟨a, _, rfl⟩ := List.mem_map.1 hrow
        exact map_id_of fun d hd => linr_frz _ _ _ a d hd]
    have hfy : frz h.length g6 2 i.e.fd = i.e.fd := slof_frz i.e.hfd (fun a _ => fld_frz _ g6 _ a)
    generalize hj : (⟨i.r, ⟨i.e.a0, i.e.a1, x.off, i.e.a3, ks, .sl 3 false (ks.map linr), i.e.a5, i.e.a6, i.e.s7, i.e.s8, i.e.fs, i.e.fd, i.e.hfd, i.e.hl, hsl, by omega⟩⟩ : It) = j
    have hflt : FltOf i m j := by subst hj; exact ⟨rfl, rfl, rfl, rfl, rfl, rfl, rfl, rfl, hks.symm, rfl, x, by rw [hks, hxr]; rfl, rfl⟩
    rw [scope_eq (d' := .tup [.agg (itr j), .bool true]) (by subst hj; simp [-bind_some, itr, evr, hfy, hfz]) (.tup _ fun d hd => by
      simp at hd
      rcases hd with rfl | rfl
      · exact itr_ok _ _
      · constructor) (by have := t4.1; have := t6.1; omega) (fun q hq => ((t6.2 q (by omega)).trans (t4.2 q (by omega))).trans (hb q hq))]
    exact .some ⟨rfl, j, true, rfl, .inr (.inr ⟨hm, by omega, hex, rfl, hflt⟩)⟩
theorem cmpB_neg : ∀ (a b : Str), Lib.compareBytes a b = - Lib.compareBytes b a
  | [], [] => rfl
  | [], _ :: _ => rfl
  | _ :: _, [] => rfl
  | x :: a, y :: b => by
    have ih := cmpB_neg a b
    simp only [Lib.compareBytes]
    by_cases h1 : x < y
    · have h2 : ¬ y < x := by
        have := UInt8.lt_iff_toNat_lt.1 h1
        intro hh
        have := UInt8.lt_iff_toNat_lt.1 hh
        omega
      simp [-bind_some, h1, h2]
    · by_cases h2 : y < x
      · simp [-bind_some, h1, h2]
      · simp [-bind_some, h1, h2, ih]
theorem asc_srt {l : List (Str × Str)} (h : Asc l) : srt l = l := by
  have hd : ∀ j, dn cF 0 j l = l := fun j => by
    cases j with
    | zero => rfl
    | succ j =>
      unfold dn
      split
      · rename_i x y hx hy
        split
        · rename_i hc
          exfalso
          have h1 := (h j y x hy hx).1
          have h2 := (cmpB_lt y.1 x.1).2 h1
          have h3 := cmpB_neg x.1 y.1
          have h4 := hc.2
          unfold cF at h4
          omega
        · rfl
      · rfl
  have hi : ∀ n i, isr cF 0 i n l = l := fun n => by
    induction n with
    | zero => intro i; rfl
    | succ n ih => intro i; unfold isr; rw [hd]; exact ih _
  exact hi _ _
theorem asc_adj : ∀ {l : List (Str × Str)}, Asc l → adjB l = false
  | [], _ => rfl
  | [_], _ => rfl
  | x :: y :: r, h => by
    unfold adjB
    have h0 := (h 0 x y rfl rfl).2
    have h1 : (y.1 == x.1) = false := by simp; exact fun hh => h0 hh.symm
    rw [h1, Bool.false_or]
    exact asc_adj fun i p q hp hq => h (i + 1) p q hp hq
theorem asc_sort {l : List (Str × Str)} (h : Asc l) (hl : l.length ≤ 32) (hn : ∀ p ∈ l, fnameOK p.1 = true) : sortF l = (0, l) := by
  have h32 : ¬ 32 < l.length := by omega
  have ha : l.all (fun p => fnameOK p.1) = true := List.all_eq_true.2 hn
  simp only [sortF, h32, if_false, ha, if_true, asc_srt h, asc_adj h, Bool.false_eq_true]
theorem lnE_mch (to_ m : Int) (hm : 200 ≤ m) (ht : to_ ≤ 60000) : ∀ (ls : List Lin) (a : Int), 0 ≤ a → mch a ls to_ → lnE to_ m a ls = 0
  | [], a, _, _ => rfl
  | l :: r, a, ha, h => by
    obtain ⟨h1, h2, h3, h4, h5⟩ := h
    have hle := mch_le r _ _ h5
    have w1 : IntKind.wrap .i64 (to_ - a) = to_ - a := wrap_i64 (by omega) (by omega)
    have w2 : IntKind.wrap .i64 (a + l.len) = a + l.len := wrap_i64 (by omega) (by omega)
    unfold lnE
    rw [if_pos, if_neg (by omega), w2]
    · exact lnE_mch to_ m hm ht r _ (by omega) h5
    · rw [w1]
      refine ⟨h1, by omega, by omega, fun hh => ?_⟩
      obtain ⟨hr, hlt⟩ := hh
      subst hr
      have h5 : a + l.len = to_ := h5
      omega
theorem lines_mch {e : Ev} (m : Int) (hm : 200 ≤ m) (h0 : 0 ≤ e.a2) (ht : e.a3 ≤ 60000) (h1 : 1 ≤ e.ls.length) (h40 : e.ls.length ≤ 40) (hc : mch e.a2 e.ls e.a3) : linesE e m = 0 := by
  have g0 : ¬ e.ls.length = 0 := by omega
  have g1 : ¬ 40 < e.ls.length := by omega
  simp only [linesE, g0, g1, if_false]
  exact lnE_mch _ _ hm ht _ _ h0 hc
theorem mf_asc {l : List (Str × Str)} (h : MF l) : Asc l := by
  have hp : lt98_17.Pairwise fun a b => Op.bytesLess a b = true ∧ a ≠ b := by decide
  have := hp.sublist h.1
  rw [List.pairwise_iff_getElem] at this
  intro i p q h1 h2
  obtain ⟨g1, h1⟩ := List.getElem?_eq_some_iff.1 h1
  obtain ⟨g2, h2⟩ := List.getElem?_eq_some_iff.1 h2
  have := this i (i + 1) (by simpa using g1) (by simpa using g2) (by omega)
  simpa [-bind_some, h1, h2] using this
theorem mf_sort {l : List (Str × Str)} (h : MF l) : sortF l = (0, l) := by
  have hl : l.length ≤ 4 := by
    have := h.1.length_le
    simpa using this
  refine asc_sort (mf_asc h) (by omega) fun p hp => ?_
  have hm : p.1 ∈ lt98_17 := h.1.subset (List.mem_map.2 ⟨p, hp, rfl⟩)
  exact (show ∀ s ∈ lt98_17, fnameOK s = true by decide) _ hm
theorem mf_len {l : List (Str × Str)} (h : MF l) : l.length ≤ 4 := by
  have := h.1.length_le
  simpa using this
structure EvK (e : Ev) : Prop where
  h0 : 0 ≤ e.a0
  h2 : e.a0 ≤ 2
  f0 : 0 ≤ e.a1
  f2 : e.a1 ≤ 2
  a0 : 0 ≤ e.a2
  b9 : e.a3 ≤ 1000
  ch : mch e.a2 e.ls e.a3
  l1 : 1 ≤ e.ls.length
  l3 : e.ls.length ≤ 3
  t0 : 0 ≤ e.a5
  t9 : e.a5 ≤ 255000
  wt : e.a6 ∈ lt82_14
  tr : e.s7 ∈ lt98_15
  st : e.s8 ∈ lt98_16
  fs : MF e.fs
theorem EvM.k {e : Ev} (h : EvM e) : EvK e := ⟨h.h0, h.h2, h.f0, h.f2, h.a0, by have := mch_le _ _ _ h.ch; have := h.a9; have := h.l3; omega, h.ch, h.l1, h.l3, h.t0, h.t9, h.wt, h.tr, h.st, h.fs⟩
theorem EvK.good {e : Ev} (h : EvK e) : evE e = 0 := by
  have hle := mch_le _ _ _ h.ch
  have h1 := h.h0; have h2 := h.h2; have h3 := h.f0; have h4 := h.f2; have h5 := h.a0; have h6 := h.b9; have h7 := h.l1; have h8 := h.t0; have h9 := h.t9; have h10 := h.l3
  have hp : plB e = true := by
    simp [-bind_some, plB]
    omega
  have ht : (decide (0 ≤ e.a5) && decide (e.a5 ≤ 253402300799999)) = true := by simp; omega
  have hw := (show ∀ s ∈ lt82_14, ¬ s < 1 ∧ Int.tmod 5040 s = 0 by decide) _ h.wt
  have hl := lines_mch 2000 (by omega) h.a0 (by omega) h.l1 (by omega) h.ch
  have htr := (show ∀ s ∈ lt98_15, ¬ 32 < s.length by decide) _ h.tr
  have hst := (show ∀ s ∈ lt98_16, ¬ 32 < s.length by decide) _ h.st
  have hs := mf_sort h.fs
  have hv : (e.fs.any fun p => decide (2000 < p.2.length)) = false := by
    rw [List.any_eq_false]
    intro p hp
    have := (show ∀ s ∈ lt98_18, ¬ 2000 < s.length by decide) _ (h.fs.2 p hp)
    simpa using this
  simp [-bind_some, evE, hp, ht, hw.1, hw.2, hl, htr, hst, hs, hv]
theorem m10 (zs : List Int) (d : D) (n : Int) (h : Hp) (hd : Given .u8 zs d) (hn : 0 ≤ n) (hn2 : n ≤ 400) (hz : ∀ z ∈ zs, 0 ≤ z ∧ z < 256) (hzl : zs.length ≤ 9223372036854775807) : ∃ h', R fn10 [d, .int .i64 n] h = some (.ptr h.length 0 0, h') ∧ CM h' h.length ∧ h'.length = h.length + 1 ∧ ∀ q, q < h.length → h'[q]? = h[q]? := by
  rw [e10]
  simp only [F10, bs, Option.bind_assoc, given_len hd, dBin_gtr]
  have fin : ∀ d' zs', Given .u8 zs' d' → zs'.length ≤ 400 → (∀ z ∈ zs', 0 ≤ z ∧ z < 256) → ∃ h', ((dBuild tab ty80 [0] [d']).bind fun t13 => (wBox ty80 2 h t13).bind fun p14 => some (mkRes [p14.1], p14.2)) = some (.ptr h.length 0 0, h') ∧ CM h' h.length ∧ h'.length = h.length + 1 ∧ ∀ q, q < h.length → h'[q]? = h[q]? := fun d' zs' hg hl hz' => by
    rw [bd80_0 d' (given_one hg)]
    simp only [bs]
    rw [wBox_agg ty80 2 h [d', .int .i64 0] rfl (by omega)]
    exact ⟨_, rfl, ⟨d', zs', 0, new_get _ _ _ _, hg, hl, by omega, hz'⟩, new_len _ _ _ _, fun q hq => new_old _ _ _ _ hq⟩
  by_cases hgt : n < (zs.length : Int)
  · obtain ⟨d', hs, hg⟩ := given_hi (T := tab) (t := ty22) (i := ti22) (j := ti5) (id rfl) (id rfl) (id rfl) (id rfl) hd (k2 := .i64) hn (Int.le_of_lt hgt)
    simp only [hgt, decide_true, dIf_bool, if_true, hs, bs, toEnd_nrm, nth_zero]
    exact fin d' _ hg (by simp; omega) fun z hz' => hz z (List.mem_of_mem_take hz')
  · simp only [hgt, decide_false, dIf_bool, Bool.false_eq_true, if_false, bs, toEnd_nrm, nth_zero]
    exact fin d zs hd (by omega) hz
def aev : Ev := ⟨0, 0, 0, 9, [⟨0, 5, []⟩, ⟨5, 4, [120]⟩], .sl 3 true [[.int .i64 0, .int .i64 5, .str []], [.int .i64 5, .int .i64 4, .str [120]]], 0, 1, [], [], [], .nils, SlOf.nils _ _, by simp, SlOf.mk 3 linr [⟨0, 5, []⟩, ⟨5, 4, [120]⟩] true, by simp⟩
theorem aev_e : evE aev = 0 := by decide
theorem s1036 (h : Hp) : R fn1036 [] h = some (.bool true, h) := by
  rw [e1036]
  obtain ⟨j, ok, h1, h2⟩ := s1040 ⟨[], aev⟩ 3 h (by decide)
  have h3 := s1043 aev h (by decide)
  rw [aev_e] at h3
  have hc : ok = true ∧ FltOf ⟨[], aev⟩ 3 j := by
    rcases h2 with ⟨hh, _⟩ | ⟨_, hh, _⟩ | ⟨_, _, _, hh, hf⟩
    · exact absurd hh (by decide)
    · rcases hh with hh | hh
      · exact absurd hh (by decide)
      · exact absurd (hh ⟨5, 4, [120]⟩ (by decide)) (by decide)
    · exact ⟨hh, hf⟩
  obtain ⟨rfl, hf⟩ := hc
  have hls : j.e.ls = [⟨5, 4, [120]⟩] := hf.ls.trans (by decide)
  have ha2 : j.e.a2 = 5 := by
    obtain ⟨x, hx, hx2⟩ := hf.a2
    rw [hx2]
    have : (some x : Option Lin) = some ⟨5, 4, [120]⟩ := hx.symm.trans (by decide)
    injection this with this
    rw [this]
  have hbx : boxN 10 (.agg (evr aev)) = some (.fptr (evr aev)) := boxN_agg 10 _ rfl
  have hbx2 : boxN 11 (.agg (itr j)) = some (.fptr (itr j)) := boxN_agg 11 _ rfl
  have q2 : dFieldAddr tab ty31 2 (.fptr (evr j.e)) = some (.fptr [.int .i64 j.e.a2, .int .i64 j.e.a3, j.e.ld, .int .i64 j.e.a5, .int .i64 j.e.a6, .str j.e.s7, .str j.e.s8, j.e.fd]) := id rfl
  have q4 : dFieldAddr tab ty31 4 (.fptr (evr j.e)) = some (.fptr [j.e.ld, .int .i64 j.e.a5, .int .i64 j.e.a6, .str j.e.s7, .str j.e.s8, j.e.fd]) := id rfl
  have hb1 : dBuild tab ty31 [3, 6, 4] [.int .i64 9, .int .i64 1, .sl 3 true [[.int .i64 0, .int .i64 5, .str []], [.int .i64 5, .int .i64 4, .str [120]]]] = some (.agg (evr aev)) := bd31_3_6_4 9 1 _ (by rfl)
  have hb2 : dBuild tab ty74 [1] [.agg (evr aev)] = some (.agg (itr ⟨[], aev⟩)) := id rfl
  simp only [F1036, bs, bd78_1, bd78_0_1_2, bs28_2, hb1, hbx, evL, hb2, h1, dExtract_tup, List.getElem?_cons_zero, List.getElem?_cons_succ, hbx2, h3, dBin_eql, decide_true, gd_bool, if_true, dPick_bool, itF1, q2, q4, ld3, ld28, ha2, lens28 j.e.hld, hls, List.length_singleton, mkRes_one]
  rfl
theorem mch_blank : ∀ (ls : List Lin) (a b : Int), mch a ls b → mch a (ls.map blank) b
  | [], a, b, h => h
  | x :: r, a, b, h => ⟨h.1, h.2.1, h.2.2.1, by simp [-bind_some, blank], mch_blank r _ b h.2.2.2.2⟩
structure SkK (i : It) : Prop where
  r : i.r ∈ lt98_35
  h0 : 0 ≤ i.e.a0
  h2 : i.e.a0 ≤ 2
  f0 : 0 ≤ i.e.a1
  f2 : i.e.a1 ≤ 2
  a0 : 0 ≤ i.e.a2
  b9 : i.e.a3 ≤ 1000
  ch : mch i.e.a2 i.e.ls i.e.a3
  l1 : 1 ≤ i.e.ls.length
  l3 : i.e.ls.length ≤ 3
  tx : ∀ l ∈ i.e.ls, l.txt = []
  t0 : i.e.a5 = 0
  w0 : i.e.a6 = 0
  tr : i.e.s7 = []
  st : i.e.s8 = []
  fs : i.e.fs = []
def ItK (i : It) : Prop := (i.r = [] ∧ EvK i.e) ∨ SkK i
theorem ItK.l3 {i : It} (h : ItK i) : i.e.ls.length ≤ 3 := by
  rcases h with ⟨_, h⟩ | h
  · exact h.l3
  · exact h.l3
theorem ItK.fs {i : It} (h : ItK i) : i.e.fs.length ≤ 4 := by
  rcases h with ⟨_, h⟩ | h
  · exact mf_len h.fs
  · rw [h.fs]; simp [-bind_some]
theorem ItK.ch {i : It} (h : ItK i) : mch i.e.a2 i.e.ls i.e.a3 ∧ 0 ≤ i.e.a2 ∧ i.e.a3 ≤ 1000 ∧ 1 ≤ i.e.ls.length := by
  rcases h with ⟨_, h⟩ | h
  · exact ⟨h.ch, h.a0, h.b9, h.l1⟩
  · exact ⟨h.ch, h.a0, h.b9, h.l1⟩
theorem ItK.good {i : It} (h : ItK i) : itE i = 0 := by
  rcases h with ⟨hr, h⟩ | h
  · simp [-bind_some, itE, hr, h.good]
  · have hr := (show ∀ s ∈ lt98_35, s ≠ [] ∧ ¬ 32 < s.length by decide) _ h.r
    have hle := mch_le _ _ _ h.ch
    have h1 := h.h0; have h2 := h.h2; have h3 := h.f0; have h4 := h.f2; have h5 := h.a0; have h6 := h.b9; have h7 := h.l1; have h10 := h.l3
    have hp : plB i.e = true := by
      simp [-bind_some, plB]
      omega
    have hl := lines_mch 60000 (by omega) h.a0 (by omega) h.l1 (by omega) h.ch
    have ha : (i.e.ls.any fun p => !(p.txt == [])) = false := by
      rw [List.any_eq_false]
      intro p hp
      simp [-bind_some, h.tx p hp]
    simp [-bind_some, itE, hr.1, hr.2, hp, hl, h.t0, h.w0, h.tr, h.st, h.fs]
    exact h.tx
theorem mch_filter (m : Int) : ∀ (ls : List Lin) (a b : Int), mch a ls b → (ls.filter fun l => decide (m ≤ l.off)) = [] ∨ ∃ x r, (ls.filter fun l => decide (m ≤ l.off)) = x :: r ∧ mch x.off (x :: r) b ∧ m ≤ x.off ∧ a ≤ x.off ∧ (∀ l ∈ ls, m ≤ l.off → x.off ≤ l.off)
  | [], a, b, h => .inl rfl
  | l :: r, a, b, h => by
    obtain ⟨h1, h2, h3, h4, h5⟩ := h
    have hlb : ∀ y ∈ r, a ≤ y.off := by
      have key : ∀ (ls : List Lin) (a b : Int), mch a ls b → ∀ y ∈ ls, a ≤ y.off := by
        intro ls
        induction ls with
        | nil => intro a b _ y hy; simp at hy
        | cons z r ih =>
          intro a b h y hy
          rcases List.mem_cons.1 hy with rfl | hy
          · exact Int.le_of_eq h.1.symm
          · have := ih _ b h.2.2.2.2 y hy
            have := h.2.1
            omega
      intro y hy
      have := key r _ b h5 y hy
      omega
    by_cases hc : m ≤ l.off
    · right
      have hall : (r.filter fun l => decide (m ≤ l.off)) = r := by
        rw [List.filter_eq_self]
        intro y hy
        have := hlb y hy
        simp [-bind_some]; omega
      refine ⟨l, r, ?_, ⟨rfl, h2, h3, h4, by rw [h1]; exact h5⟩, hc, by omega, fun y hy _ => ?_⟩
      · rw [List.filter_cons, if_pos (by simpa using hc), hall]
      · rcases List.mem_cons.1 hy with rfl | hy
        · omega
        · have := hlb y hy; omega
    · have hf : ((l :: r).filter fun l => decide (m ≤ l.off)) = r.filter fun l => decide (m ≤ l.off) := by
        rw [List.filter_cons, if_neg (by simpa using hc)]
      rw [hf]
      rcases mch_filter m r _ b h5 with h | ⟨x, r', e1, e2, e3, e4, e5⟩
      · exact .inl h
      · refine .inr ⟨x, r', e1, e2, e3, by omega, fun y hy hm => ?_⟩
        rcases List.mem_cons.1 hy with rfl | hy
        · exact absurd hm hc
        · exact e5 y hy hm
theorem FltOf.k {i j : It} {m : Int} (hi : ItK i) (h : FltOf i m j) : ItK j := by
  obtain ⟨hch, hc0, hc9, hc1⟩ := hi.ch
  obtain ⟨x, hx, hx2⟩ := h.a2
  have hfl := List.length_filter_le (fun l : Lin => decide (m ≤ l.off)) i.e.ls
  have hl3 := hi.l3
  rcases mch_filter m _ _ _ hch with hf | ⟨y, r, hf, hm, _, hay, _⟩
  · rw [hf] at hx; cases hx
  rw [hf] at hx hfl
  injection hx with hx
  subst hx
  have hls : j.e.ls = y :: r := h.ls.trans hf
  have hmem : ∀ l ∈ j.e.ls, l ∈ i.e.ls := fun l hl => by rw [h.ls] at hl; exact (List.mem_filter.1 hl).1
  have hchj : mch j.e.a2 j.e.ls j.e.a3 := by rw [hx2, hls, h.a3]; exact hm
  have l1 : 1 ≤ j.e.ls.length := by rw [hls]; simp [-bind_some]
  have l3 : j.e.ls.length ≤ 3 := by rw [hls]; omega
  rcases hi with ⟨hr, hi⟩ | hi
  · exact .inl ⟨h.r.trans hr, ⟨by rw [h.a0]; exact hi.h0, by rw [h.a0]; exact hi.h2, by rw [h.a1]; exact hi.f0, by rw [h.a1]; exact hi.f2, by rw [hx2]; omega, by rw [h.a3]; exact hc9, hchj, l1, l3, by rw [h.a5]; exact hi.t0, by rw [h.a5]; exact hi.t9, by rw [h.a6]; exact hi.wt, by rw [h.s7]; exact hi.tr, by rw [h.s8]; exact hi.st, by rw [h.fs]; exact hi.fs⟩⟩
  · exact .inr ⟨by rw [h.r]; exact hi.r, by rw [h.a0]; exact hi.h0, by rw [h.a0]; exact hi.h2, by rw [h.a1]; exact hi.f0, by rw [h.a1]; exact hi.f2, by rw [hx2]; omega, by rw [h.a3]; exact hc9, hchj, l1, l3, fun l hl => hi.tx l (hmem l hl), by rw [h.a5]; exact hi.t0, by rw [h.a6]; exact hi.w0, by rw [h.s7]; exact hi.tr, by rw [h.s8]; exact hi.st, by rw [h.fs]; exact hi.fs⟩
theorem AftOf.later {i a d : It} {p q : Int} {was : Bool} (hpq : p ≤ q) (ha : AftOf i p false a) (hd : AftOf i q was d) : was = false := by
  rcases ha with ⟨_, hh, _⟩ | ⟨h1, h2, _, _⟩ | ⟨_, _, _, hh, _⟩
  · cases hh
  · rcases hd with ⟨hh, _⟩ | ⟨_, _, rfl, _⟩ | ⟨_, k3, ⟨l, hl, hql⟩, _⟩
    · omega
    · rfl
    · rcases h2 with h2 | h2
      · omega
      · have := h2 l hl; omega
  · cases hh
theorem m1038 {h : Hp} {o : Nat} (hc : CM h o) : ∃ i h', R fn1038 [.ptr o 0 0] h = some (.agg (itr i), h') ∧ CM h' o ∧ Same o h h' ∧ ItK i := by
  suffices Wp (R fn1038 [.ptr o 0 0] h) (fun p => ∃ i, p.1 = .agg (itr i) ∧ CM p.2 o ∧ Same o h p.2 ∧ ItK i) by
    obtain ⟨⟨x, h'⟩, h1, i, rfl, h2⟩ := this
    exact ⟨i, h', h1, h2⟩
  have ho := hc.lt
  rw [e1038]
  simp only [F1038, bs, Option.bind_assoc]
  generalize hg0 : dNew h ty74 11 [[.str [], .int .i64 0, .int .i64 0, .int .i64 0, .int .i64 0, .nils, .int .i64 0, .int .i64 0, .str [], .str [], .nils]] = g0
  have p0 : g0[h.length]? = some (Ob.row ty74 11 [[.str [], .int .i64 0, .int .i64 0, .int .i64 0, .int .i64 0, .nils, .int .i64 0, .int .i64 0, .str [], .str [], .nils]]) := by rw [← hg0]; exact new_get _ _ _ _
  have S0 : Sm h o g0 := (Sm.refl hc).app (by rw [← hg0, new_len]; omega) fun q hq => by rw [← hg0]; exact new_old _ _ _ _ hq
  have hl0 : g0.length = h.length + 1 := by rw [← hg0]; exact new_len _ _ _ _
  clear hg0
  obtain ⟨e, g1, e1, c1, s1, he⟩ := m12 S0.cd
  refine Wp.step e1 ?_; clear e1
  have hbx : boxN 10 (.agg (evr e)) = some (.fptr (evr e)) := boxN_agg 10 _ rfl
  simp only [bs, hbx]
  obtain ⟨v, g2, e2, c2, s2, v0, v1⟩ := m39 c1 4 (by omega) (by omega)
  refine Wp.step e2 ?_; clear e2
  have S2 := (S0.next c1 s1).next c2 s2
  have hl2 : g2.length = h.length + 1 := by have := s1.1; have := s2.1; omega
  replace p0 := (s2.2 h.length (by omega)).trans ((s1.2 h.length (by omega)).trans p0)
  clear S0 s1 s2 c1 hl0
  have hb2 : dBuild tab ty74 [1] [.agg (evr e)] = some (.agg (itr ⟨[], e⟩)) := id rfl
  have fin : ∀ (g : Hp) (j : It), Sm h o g → g[h.length]? = some (Ob.row ty74 11 [itr j]) → ItK j → Wp ((dLoad tab g ty74 (.ptr h.length 0 0)).bind fun d => scope h g (mkRes [d])) (fun p : D × Hp => ∃ i, p.1 = .agg (itr i) ∧ CM p.2 o ∧ Same o h p.2 ∧ ItK i) := fun g j S q hj => by
    simp only [ldIt11 q, bs, mkRes_one]
    obtain ⟨h', hsc, hcd, hsm2⟩ := S.scope (d := .agg (itr j)) (d' := .agg (itr j)) (by
      rw [frz_agg, map_id_of fun d hd => itr_frz h.length g 2 j d hd]) (itr_ok _ _)
    rw [hsc]
    exact .some ⟨j, rfl, hcd, hsm2, hj⟩
  simp only [dBin_lss, bs]
  refine Wp.dif ?_ ?_
  · intro _
    simp only [evL, bs, hb2]
    refine wst74 p0 (by rfl) (by rfl) (by simp) (by rfl) fun g3 p3 sg => ?_
    replace p3 : g3[h.length]? = some (Ob.row ty74 11 [itr ⟨[], e⟩]) := p3
    exact fin g3 _ (S2.app (Nat.le_of_eq sg.1.symm) fun q hq => sg.2 q (by omega)) p3 (.inl ⟨rfl, he.k⟩)
  · intro _
    have q0 : dFieldAddr tab ty31 0 (.fptr (evr e)) = some (.fptr (evr e)) := id rfl
    have q1 : dFieldAddr tab ty31 1 (.fptr (evr e)) = some (.fptr [.int .i64 e.a1, .int .i64 e.a2, .int .i64 e.a3, e.ld, .int .i64 e.a5, .int .i64 e.a6, .str e.s7, .str e.s8, e.fd]) := id rfl
    have q2 : dFieldAddr tab ty31 2 (.fptr (evr e)) = some (.fptr [.int .i64 e.a2, .int .i64 e.a3, e.ld, .int .i64 e.a5, .int .i64 e.a6, .str e.s7, .str e.s8, e.fd]) := id rfl
    have q3 : dFieldAddr tab ty31 3 (.fptr (evr e)) = some (.fptr [.int .i64 e.a3, e.ld, .int .i64 e.a5, .int .i64 e.a6, .str e.s7, .str e.s8, e.fd]) := id rfl
    have q4 : dFieldAddr tab ty31 4 (.fptr (evr e)) = some (.fptr [e.ld, .int .i64 e.a5, .int .i64 e.a6, .str e.s7, .str e.s8, e.fd]) := id rfl
    have l0 : ∀ g, dLoad tab g ty3 (.fptr (evr e)) = some (.int .i64 e.a0) := fun g => id rfl
    simp only [q0, q1, q2, q3, q4, l0, ld3, bs, bd31_0_1_2_3]
    generalize hg3 : dNew g2 ty31 10 [[.int .i64 0, .int .i64 0, .int .i64 0, .int .i64 0, .nils, .int .i64 0, .int .i64 0, .str [], .str [], .nils]] = g3
    have p3 : g3[g2.length]? = some (Ob.row ty31 10 [[.int .i64 0, .int .i64 0, .int .i64 0, .int .i64 0, .nils, .int .i64 0, .int .i64 0, .str [], .str [], .nils]]) := by rw [← hg3]; exact new_get _ _ _ _
    have hb3 : ∀ q, q < h.length + 1 → g3[q]? = g2[q]? := fun q hq => by rw [← hg3]; exact new_old _ _ _ _ (by omega)
    have hl3 : g3.length = h.length + 2 := by rw [← hg3, new_len]; omega
    clear hg3
    rw [hl2] at p3 ⊢
    have S3 := S2.app (by omega) fun q hq => hb3 q (by omega)
    replace p0 := (hb3 h.length (by omega)).trans p0
    refine wst31 p3 (by rfl) (by rfl) (by simp) (by rfl) fun g4 p4 sg => ?_
    replace p4 : g4[h.length + 1]? = some (Ob.row ty31 10 [[.int .i64 e.a0, .int .i64 e.a1, .int .i64 e.a2, .int .i64 e.a3, .nils, .int .i64 0, .int .i64 0, .str [], .str [], .nils]]) := p4
    have S4 := S3.app (Nat.le_of_eq sg.1.symm) fun q hq => sg.2 q (by omega)
    replace p0 := (sg.2 h.length (by omega)).trans p0
    have hl4 : g4.length = h.length + 2 := sg.1.trans hl3
    clear p3 hb3 S3 S2 sg hl3 c2 hl2
    simp only [bs, ld28, lens28 e.hld]
    refine Wp.loop (fun k ds g => ∃ a b x, ∃ n : Nat, ds = [a, .int .i64 n, b] ∧ k + n = e.ls.length ∧ Sm h o g ∧ h.length + 2 ≤ g.length ∧ g[h.length]? = some (Ob.row ty74 11 [[.str [], .int .i64 0, .int .i64 0, .int .i64 0, .int .i64 0, .nils, .int .i64 0, .int .i64 0, .str [], .str [], .nils]])
        ∧ g[h.length + 1]? = some (Ob.row ty31 10 [[.int .i64 e.a0, .int .i64 e.a1, .int .i64 e.a2, .int .i64 e.a3, x, .int .i64 0, .int .i64 0, .str [], .str [], .nils]]) ∧ Own g (h.length + 2) ty78 3 (((e.ls.take n).map blank).map linr) x)
      (fun r => r.1 = .ext 0 ∧ ∃ a b c x, r.2.1 = [a, b, c] ∧ Sm h o r.2.2 ∧ h.length + 2 ≤ r.2.2.length ∧ r.2.2[h.length]? = some (Ob.row ty74 11 [[.str [], .int .i64 0, .int .i64 0, .int .i64 0, .int .i64 0, .nils, .int .i64 0, .int .i64 0, .str [], .str [], .nils]])
        ∧ r.2.2[h.length + 1]? = some (Ob.row ty31 10 [[.int .i64 e.a0, .int .i64 e.a1, .int .i64 e.a2, .int .i64 e.a3, x, .int .i64 0, .int .i64 0, .str [], .str [], .nils]]) ∧ Own r.2.2 (h.length + 2) ty78 3 ((e.ls.map blank).map linr) x) e.ls.length
      ⟨_, _, .nils, 0, rfl, rfl, S4, by omega, p0, p4, Own.nils _ _ _ _⟩ ?_ ?_
    · clear p0 p4 S4 hl4
      rintro k ds g ⟨a, b, x, n, rfl, hk, S, hgl, p0, p1, ow⟩
      have hel := he.l3
      simp only [F1038_L0, nth_zero, nth_succ, bs, Option.bind_assoc, dBin_lss]
      refine Wp.dif ?_ ?_
      · intro h0
        have h0 : n < e.ls.length := by have : (n : Int) < e.ls.length := by simpa using h0
                                        omega
        have hg : e.ls[n]? = some e.ls[n] := List.getElem?_eq_getElem h0
        have hw : IntKind.wrap .i64 ((n : Int) + 1) = ((n + 1 : Nat) : Int) := by rw [wrap_i64 (by omega) (by omega)]; omega
        have hts : (e.ls.take (n + 1)).map blank = (e.ls.take n).map blank ++ [blank e.ls[n]] := by
          rw [List.take_add_one, hg, List.map_append]; rfl
        generalize e.ls[n] = l at hg hts
        have r1 : g.row (h.length + 1) 0 = some [.int .i64 e.a0, .int .i64 e.a1, .int .i64 e.a2, .int .i64 e.a3, x, .int .i64 0, .int .i64 0, .str [], .str [], .nils] := row_of p1
        simp only [fap31_4, ldp28, r1, Nat.zero_add, List.drop_succ_cons, List.drop_zero, List.head?_cons, q4, ld28, bs, ixs28 e.hld, Int.natCast_nonneg, if_true, Int.toNat_natCast, hg, Option.map_some]
        simp only [linr, fa78_0, fa78_1, ld3, bs, bd78_0_1, bs28_1]
        refine wap28 hgl ow (rowsOf_sl _ _ _ _) (by simp; omega) fun x' g' ow' len bel _ _ => ?_
        have oc := one_cells (own_one ow')
        simp only [bs]
        refine wst28 ((bel (h.length + 1) (by omega)).trans p1) (by rfl) (by rw [oc.1]; rfl) (by simp) oc.2 fun g2 p2 t2 => ?_
        rw [oc.1] at p2
        replace p2 : g2[h.length + 1]? = some (Ob.row ty31 10 [[.int .i64 e.a0, .int .i64 e.a1, .int .i64 e.a2, .int .i64 e.a3, x', .int .i64 0, .int .i64 0, .str [], .str [], .nils]]) := p2
        simp only [bs, dBin_add, hw]
        refine .some (.inl ⟨rfl, k - 1, by omega, _, _, x', n + 1, rfl, by omega, (S.app len fun q hq => bel q (by omega)).app (Nat.le_of_eq t2.1.symm) fun q hq => t2.2 q (by omega), by show h.length + 2 ≤ g2.length; have := t2.1; omega, (t2.2 h.length (by omega)).trans ((bel h.length (by omega)).trans p0), p2, ?_⟩)
        rw [hts, List.map_append]
        exact ow'.keep fun q hq _ => t2.2 q (by omega)
      · intro h0
        have h0 : e.ls.length ≤ n := by have : ¬ (n : Int) < e.ls.length := by simpa using h0
                                        omega
        rw [List.take_of_length_le h0] at ow
        exact .some (.inr ⟨by simp, rfl, _, _, _, x, rfl, S, hgl, p0, p1, ow⟩)
    · clear p0 p4 S4 hl4 g4
      rintro ⟨ex, ds, g⟩ ⟨rfl, a, b, c, x, rfl, S, hgl, p0, p1, ow⟩
      simp only at S hgl p0 p1 ow
      simp only [unblk_self, toEnd_nrm, bs, lt98_35_ok]
      refine pick_wp S.cd lt98_35 8 (by decide) (by decide) (by decide) fun u g2 c2 s2 hu _ => ?_
      have S2 := S.next c2 s2
      have p12 := (s2.2 (h.length + 1) (by omega)).trans p1
      replace p0 := (s2.2 h.length (by omega)).trans p0
      have ow2 := ow.same s2 (by omega)
      simp only [bs, ldob p12 rfl, ldob p1 rfl, bd74_0_1, chk_true]
      refine wst74 p0 (by rfl) (by rfl) (by simp) (by rfl) fun g3 p3 sg => ?_
      replace p3 : g3[h.length]? = some (Ob.row ty74 11 [[.str u, .int .i64 e.a0, .int .i64 e.a1, .int .i64 e.a2, .int .i64 e.a3, x, .int .i64 0, .int .i64 0, .str [], .str [], .nils]]) := p3
      have S3 := S2.app (Nat.le_of_eq sg.1.symm) fun q hq => sg.2 q (by omega)
      have ow3 := ow2.keep (h' := g3) fun q hq _ => sg.2 q (by omega)
      have hsl := own_sl (n0 := h.length) (n := 2) ow3 (by omega) (fun a _ => linr_frz _ g3 _ a)
      have hel := he.l3
      simp only [ldob11 p3 rfl, bs, mkRes_one]
      generalize hj : (⟨u, ⟨e.a0, e.a1, e.a2, e.a3, e.ls.map blank, frz h.length g3 3 x, 0, 0, [], [], [], .nils, SlOf.nils _ _, by simp, hsl, by simp; omega⟩⟩ : It) = j
      have hK : SkK j := by
        subst hj
        exact ⟨hu, he.h0, he.h2, he.f0, he.f2, he.a0, he.k.b9, mch_blank _ _ _ he.ch, by simpa using he.l1, by simpa using hel, fun l hl => by
          simp at hl
          obtain ⟨l0, _, rfl⟩ := hl
          rfl, rfl, rfl, rfl, rfl, rfl⟩
      obtain ⟨h', hsc, hcd, hsm2⟩ := S3.scope (d := .agg [.str u, .int .i64 e.a0, .int .i64 e.a1, .int .i64 e.a2, .int .i64 e.a3, x, .int .i64 0, .int .i64 0, .str [], .str [], .nils]) (d' := .agg (itr j)) (by subst hj; simp [-bind_some, itr, evr]) (itr_ok _ _)
      rw [hsc]
      exact .some ⟨j, rfl, hcd, hsm2, .inr hK⟩
structure Tal where
  h : Int
  r : Str
  n : Int
theorem bL_irr : ∀ a : Str, Op.bytesLess a a = false
  | [] => rfl
  | x :: a => by simp [-bind_some, Op.bytesLess, bL_irr a]
theorem bL_tr : ∀ {a b c : Str}, Op.bytesLess a b = true → Op.bytesLess b c = true → Op.bytesLess a c = true
  | _, [], _, h, _ => by cases ‹Str› <;> simp [-bind_some, Op.bytesLess] at h
  | _, _ :: _, [], _, h => by simp [-bind_some, Op.bytesLess] at h
  | [], _ :: _, _ :: _, _, _ => rfl
  | x :: a, y :: b, z :: c, h, k => by
    simp only [Op.bytesLess, Bool.or_eq_true, decide_eq_true_eq, Bool.and_eq_true, beq_iff_eq] at h k ⊢
    rcases h with h | ⟨rfl, h⟩
    · rcases k with k | ⟨rfl, k⟩
      · exact .inl (UInt8.lt_trans h k)
      · exact .inl h
    · rcases k with k | ⟨rfl, k⟩
      · exact .inl k
      · exact .inr ⟨rfl, bL_tr h k⟩
theorem bL_tot : ∀ {a b : Str}, Op.bytesLess a b = false → a ≠ b → Op.bytesLess b a = true
  | [], [], _, h => absurd rfl h
  | [], _ :: _, h, _ => by simp [-bind_some, Op.bytesLess] at h
  | _ :: _, [], _, _ => rfl
  | x :: a, y :: b, h, k => by
    simp only [Op.bytesLess, Bool.or_eq_false_iff, decide_eq_false_iff_not, Bool.and_eq_false_iff, beq_eq_false_iff_ne] at h
    simp only [Op.bytesLess, Bool.or_eq_true, decide_eq_true_eq, Bool.and_eq_true, beq_iff_eq]
    by_cases hxy : x = y
    · subst hxy
      refine .inr ⟨rfl, bL_tot (h.2.resolve_left fun hh => hh rfl) fun hh => k (by rw [hh])⟩
    · left
      have h1 := mt UInt8.lt_iff_toNat_lt.2 h.1
      have h2 : x.toNat ≠ y.toNat := fun hh => hxy (UInt8.toNat_inj.1 hh)
      exact UInt8.lt_iff_toNat_lt.2 (by omega)
def gr : List Ev → List Ev → Bool
  | [], _ => true
  | _ :: _, [] => false
  | x :: a, y :: b => if sameE x y = true then gr a b else gr (x :: a) b
def sm (f : Tal → Int) : List Tal → Int
  | [] => 0
  | t :: r => f t + sm f r
theorem ldIt0 {g : Hp} {z : Nat} {i : It} (hz : g[z]? = some (.row ty74 11 [itr i])) : dLoad tab g ty74 (.ptr z 0 0) = some (.agg (itr i)) := ldob11 hz rfl
theorem itr_okv (i : It) : (D.agg (itr i)).okv = true := by
  have h1 := slof_one i.e.hld
  have h2 := slof_one i.e.hfd
  have h3 : (D.agg (itr i)) = .agg [.str i.r, .int .i64 i.e.a0, .int .i64 i.e.a1, .int .i64 i.e.a2, .int .i64 i.e.a3, i.e.ld, .int .i64 i.e.a5, .int .i64 i.e.a6, .str i.e.s7, .str i.e.s8, i.e.fd] := rfl
  rw [h3]
  generalize i.e.ld = a at h1
  generalize i.e.fd = b at h2
  cases a <;> first | (cases b <;> first | rfl | (simp [-bind_some, D.one] at h2)) | (simp [-bind_some, D.one] at h1)
structure SOrd {α : Type} (c : α → α → Int) (S Pre : α → α → Prop) : Prop where
  tr : ∀ x y z, S x y → S y z → S x z
  lt : ∀ x y, Pre x y → c y x < 0 → S y x
  ge : ∀ x y, Pre x y → ¬ c y x < 0 → S x y
theorem pw_ins {α : Type} {c : α → α → Int} {S Pre : α → α → Prop} (o : SOrd c S Pre) {A1 A2 : List α} {x : α} (hA : (A1 ++ A2).Pairwise S) (hp : ∀ y ∈ A1 ++ A2, Pre y x)
    (h2 : A2 = [] ∨ ∃ y r, A2 = y :: r ∧ c x y < 0) (h1 : A1 = [] ∨ ∃ y r, A1 = r ++ [y] ∧ ¬ c x y < 0) : (A1 ++ x :: A2).Pairwise S := by
  rw [List.pairwise_append] at hA ⊢
  obtain ⟨p1, p2, p3⟩ := hA
  have q1 : ∀ a ∈ A1, S a x := by
    rcases h1 with rfl | ⟨y, r, rfl, hy⟩
    · intro a ha; cases ha
    · intro a ha
      have hyx : S y x := o.ge y x (hp y (by simp)) hy
      rw [List.pairwise_append] at p1
      rcases List.mem_append.1 ha with ha | ha
      · exact o.tr _ _ _ (p1.2.2 a ha y (by simp)) hyx
      · simp at ha; subst ha; exact hyx
  have q2 : ∀ b ∈ A2, S x b := by
    rcases h2 with rfl | ⟨y, r, rfl, hy⟩
    · intro a ha; cases ha
    · intro b hb
      have hxy : S x y := o.lt y x (hp y (by simp)) hy
      rw [List.pairwise_cons] at p2
      rcases List.mem_cons.1 hb with rfl | hb
      · exact hxy
      · exact o.tr _ _ _ hxy (p2.1 b hb)
  refine ⟨p1, List.pairwise_cons.2 ⟨q2, p2⟩, fun a ha b hb => ?_⟩
  rcases List.mem_cons.1 hb with rfl | hb
  · exact q1 a ha
  · exact p3 a ha b hb
theorem dn_spec {α : Type} (c : α → α → Int) (P : List α) (x : α) : ∀ (R : List α) (Q : List α), ∃ A1 A2, R.reverse = A1 ++ A2 ∧ dn c P.length (P.length + R.length) (P ++ R.reverse ++ x :: Q) = P ++ A1 ++ x :: A2 ++ Q ∧
    (A2 = [] ∨ ∃ y r, A2 = y :: r ∧ c x y < 0) ∧ (A1 = [] ∨ ∃ y r, A1 = r ++ [y] ∧ ¬ c x y < 0)
  | [], Q => ⟨[], [], rfl, by
      cases P with
      | nil => simp [-bind_some, dn]
      | cons p P =>
        simp only [List.length_cons, List.length_nil, Nat.add_zero, List.reverse_nil, List.append_nil]
        unfold dn
        split
        · rw [if_neg (by omega)]; simp [-bind_some]
        · simp [-bind_some], .inl rfl, .inl rfl⟩
  | y :: R, Q => by
    have g1 : (P ++ (y :: R).reverse ++ x :: Q)[P.length + R.length + 1]? = some x := by
      rw [List.getElem?_append_right (by simp; omega)]
      simp [-bind_some]
      try (have : P.length + R.length + 1 - (P.length + (R.length + 1)) = 0 := by omega
           rw [this]; rfl)
    have g0 : (P ++ (y :: R).reverse ++ x :: Q)[P.length + R.length]? = some y := by
      rw [List.getElem?_append_left (by simp), List.getElem?_append_right (by omega)]
      simp [-bind_some]
    rw [List.length_cons, ← Nat.add_assoc]
    unfold dn
    rw [g1, g0]
    simp only
    by_cases hc : c x y < 0
    · rw [if_pos ⟨by omega, hc⟩]
      have hs : ((P ++ (y :: R).reverse ++ x :: Q).set (P.length + R.length + 1) y).set (P.length + R.length) x = P ++ R.reverse ++ x :: (y :: Q) := by
        have e1 : P ++ (y :: R).reverse ++ x :: Q = (P ++ R.reverse) ++ y :: x :: Q := by simp
        rw [e1]
        have l1 : (P ++ R.reverse).length = P.length + R.length := by simp
        rw [List.set_append_right _ _ (by omega), List.set_append_right _ _ (by omega), l1]
        have : P.length + R.length + 1 - (P.length + R.length) = 1 := by omega
        rw [this, Nat.sub_self]
        rfl
      rw [hs]
      obtain ⟨A1, A2, h1, h2, h3, h4⟩ := dn_spec c P x R (y :: Q)
      refine ⟨A1, A2 ++ [y], by simp [-bind_some, h1], by rw [h2]; simp [-bind_some], ?_, h4⟩
      rcases h3 with rfl | ⟨u, r, rfl, hu⟩
      · exact .inr ⟨y, [], rfl, hc⟩
      · exact .inr ⟨u, r ++ [y], rfl, hu⟩
    · rw [if_neg (fun hh => hc hh.2)]
      exact ⟨(y :: R).reverse, [], by simp, by simp, .inl rfl, .inr ⟨y, R.reverse, by simp, hc⟩⟩
theorem dn_ins {α : Type} (c : α → α → Int) (P A Q : List α) (x : α) : ∃ A1 A2, A = A1 ++ A2 ∧ dn c P.length (P.length + A.length) (P ++ A ++ x :: Q) = P ++ A1 ++ x :: A2 ++ Q ∧
    (A2 = [] ∨ ∃ y r, A2 = y :: r ∧ c x y < 0) ∧ (A1 = [] ∨ ∃ y r, A1 = r ++ [y] ∧ ¬ c x y < 0) := by
  have := dn_spec c P x A.reverse Q
  simpa using this
theorem isr_ok {α : Type} {c : α → α → Int} {S Pre : α → α → Prop} (o : SOrd c S Pre) (P Q : List α) : ∀ (B A : List α), A.Pairwise S → (∀ x ∈ A, ∀ y ∈ B, Pre x y) → B.Pairwise Pre →
    ∃ C, isr c P.length (P.length + A.length) B.length (P ++ A ++ B ++ Q) = P ++ C ++ Q ∧ C.Perm (A ++ B) ∧ C.Pairwise S
  | [], A, hA, _, _ => ⟨A, by simp [-bind_some, isr], by simp, hA⟩
  | x :: B, A, hA, hp, hB => by
    rw [List.pairwise_cons] at hB
    obtain ⟨A1, A2, rfl, h2, h3, h4⟩ := dn_ins c P A (B ++ Q) x
    have hA' : (A1 ++ x :: A2).Pairwise S := pw_ins o hA (fun y hy => hp y hy x (by simp)) h3 h4
    have e1 : P ++ (A1 ++ A2) ++ x :: B ++ Q = P ++ (A1 ++ A2) ++ x :: (B ++ Q) := by simp
    have hpm : (A1 ++ x :: A2).Perm (x :: (A1 ++ A2)) := List.perm_middle
    obtain ⟨C, q1, q2, q3⟩ := isr_ok o P Q B (A1 ++ x :: A2) hA' (fun u hu v hv => by
      rcases List.mem_cons.1 (hpm.mem_iff.1 hu) with rfl | hu
      · exact hB.1 v hv
      · exact hp u hu v (by simp [-bind_some, hv])) hB.2
    refine ⟨C, ?_, q2.trans ?_, q3⟩
    · rw [List.length_cons]
      unfold isr
      rw [e1, h2, ← q1]
      have e2 : P.length + (A1 ++ A2).length + 1 = P.length + (A1 ++ x :: A2).length := by simp; omega
      have e3 : P ++ A1 ++ x :: A2 ++ (B ++ Q) = P ++ (A1 ++ x :: A2) ++ B ++ Q := by simp
      rw [e2, e3]
    · have : ((A1 ++ x :: A2) ++ B).Perm ((x :: (A1 ++ A2)) ++ B) := hpm.append_right B
      refine this.trans ?_
      simpa using (List.perm_middle (l₁ := A1 ++ A2) (l₂ := B) (a := x)).symm
inductive Blk {α : Type} (S Pre : α → α → Prop) (k : Nat) : List α → Prop
  | last (A : List α) (hl : A.length ≤ k) (hs : A.Pairwise S) : Blk S Pre k A
  | cons (A Y : List α) (hl : A.length = k) (hs : A.Pairwise S) (hp : ∀ x ∈ A, ∀ y ∈ Y, Pre x y) (hY : Blk S Pre k Y) : Blk S Pre k (A ++ Y)
theorem Blk.all {α : Type} {S Pre : α → α → Prop} {k : Nat} {l : List α} (h : Blk S Pre k l) (hl : l.length ≤ k) : l.Pairwise S := by
  cases h with
  | last _ _ hs => exact hs
  | cons A Y hA hs hp hY =>
    have : Y = [] := by
      simp at hl
      exact List.length_eq_zero_iff.1 (by omega)
    subst this
    simpa using hs
theorem Blk.fst {α : Type} {S Pre : α → α → Prop} {k : Nat} {l : List α} (h : Blk S Pre k l) (hl : k ≤ l.length) : ∃ A Y, l = A ++ Y ∧ A.length = k ∧ A.Pairwise S ∧ (∀ x ∈ A, ∀ y ∈ Y, Pre x y) ∧ Blk S Pre k Y := by
  cases h with
  | last _ h1 hs => exact ⟨l, [], by simp, by omega, hs, by simp, .last [] (by simp) List.Pairwise.nil⟩
  | cons A Y hA hs hp hY => exact ⟨A, Y, rfl, hA, hs, hp, hY⟩
def CtxB {α : Type} (S Pre : α → α → Prop) (k : Nat) (X Y : List α) : Prop := ∀ Z : List α, Z.Perm Y → Blk S Pre k Z → Blk S Pre k (X ++ Z)
theorem CtxB.nil {α : Type} {S Pre : α → α → Prop} {k : Nat} {Y : List α} : CtxB S Pre k [] Y := fun Z _ h => h
theorem CtxB.step {α : Type} {S Pre : α → α → Prop} {k : Nat} {X A Y C : List α} (h : CtxB S Pre k X (A ++ Y)) (hC : C.Perm A) (hl : C.length = k) (hs : C.Pairwise S) (hp : ∀ x ∈ A, ∀ y ∈ Y, Pre x y) : CtxB S Pre k (X ++ C) Y := fun Z hZ hb => by
  rw [List.append_assoc]
  exact h (C ++ Z) (hC.append hZ) (.cons C Z hl hs (fun x hx y hy => hp x (hC.mem_iff.1 hx) y (hZ.mem_iff.1 hy)) hb)
theorem CtxB.done {α : Type} {S Pre : α → α → Prop} {k : Nat} {X Y Z : List α} (h : CtxB S Pre k X Y) (hZ : Z.Perm Y) (hl : Z.length ≤ k) (hs : Z.Pairwise S) : Blk S Pre k (X ++ Z) := h Z hZ (.last Z hl hs)
theorem halves {α : Type} {c : α → α → Int} {S Pre : α → α → Prop} (o : SOrd c S Pre) {A1 A2 B1 B2 C1 C2 : List α} (hA : (A1 ++ A2).Pairwise S) (hB : (B1 ++ B2).Pairwise S) (hp : ∀ x ∈ A1 ++ A2, ∀ y ∈ B1 ++ B2, Pre x y)
    (h1 : A1 = [] ∨ B2 = [] ∨ ∃ x y r s, A1 = r ++ [x] ∧ B2 = y :: s ∧ ¬ c y x < 0) (h2 : A2 = [] ∨ B1 = [] ∨ ∃ x y r s, B1 = r ++ [y] ∧ A2 = x :: s ∧ c y x < 0)
    (p1 : C1.Perm (A1 ++ B1)) (s1 : C1.Pairwise S) (p2 : C2.Perm (A2 ++ B2)) (s2 : C2.Pairwise S) : (C1 ++ C2).Perm ((A1 ++ A2) ++ (B1 ++ B2)) ∧ (C1 ++ C2).Pairwise S := by
  rw [List.pairwise_append] at hA hB
  have x1 : ∀ x ∈ A1, ∀ y ∈ B2, S x y := by
    intro x hx y hy
    rcases h1 with rfl | rfl | ⟨u, v, r, s, rfl, rfl, huv⟩
    · cases hx
    · cases hy
    · have huv : S u v := o.ge u v (hp u (by simp) v (by simp)) huv
      have q1 : x = u ∨ S x u := by
        have := hA.1
        rw [List.pairwise_append] at this
        rcases List.mem_append.1 hx with hx | hx
        · exact .inr (this.2.2 x hx u (by simp))
        · simp at hx; exact .inl hx
      have q2 : y = v ∨ S v y := by
        have := hB.2.1
        rw [List.pairwise_cons] at this
        rcases List.mem_cons.1 hy with rfl | hy
        · exact .inl rfl
        · exact .inr (this.1 y hy)
      rcases q1 with rfl | q1 <;> rcases q2 with rfl | q2
      · exact huv
      · exact o.tr _ _ _ huv q2
      · exact o.tr _ _ _ q1 huv
      · exact o.tr _ _ _ (o.tr _ _ _ q1 huv) q2
  have x2 : ∀ y ∈ B1, ∀ x ∈ A2, S y x := by
    intro y hy x hx
    rcases h2 with rfl | rfl | ⟨u, v, r, s, rfl, rfl, huv⟩
    · cases hx
    · cases hy
    · have huv : S v u := o.lt u v (hp u (by simp) v (by simp)) huv
      have q1 : y = v ∨ S y v := by
        have := hB.1
        rw [List.pairwise_append] at this
        rcases List.mem_append.1 hy with hy | hy
        · exact .inr (this.2.2 y hy v (by simp))
        · simp at hy; exact .inl hy
      have q2 : x = u ∨ S u x := by
        have := hA.2.1
        rw [List.pairwise_cons] at this
        rcases List.mem_cons.1 hx with rfl | hx
        · exact .inl rfl
        · exact .inr (this.1 x hx)
      rcases q1 with rfl | q1 <;> rcases q2 with rfl | q2
      · exact huv
      · exact o.tr _ _ _ huv q2
      · exact o.tr _ _ _ q1 huv
      · exact o.tr _ _ _ (o.tr _ _ _ q1 huv) q2
  refine ⟨?_, List.pairwise_append.2 ⟨s1, s2, fun a ha b hb => ?_⟩⟩
  · refine (p1.append p2).trans ?_
    have : (B1 ++ (A2 ++ B2)).Perm (A2 ++ (B1 ++ B2)) := by
      rw [← List.append_assoc, ← List.append_assoc]
      exact List.perm_append_comm.append_right B2
    simpa using this.append_left A1
  · rcases List.mem_append.1 (p1.mem_iff.1 ha) with ha | ha <;> rcases List.mem_append.1 (p2.mem_iff.1 hb) with hb | hb
    · exact hA.2.2 a ha b hb
    · exact x1 a ha b hb
    · exact x2 a ha b hb
    · exact hB.2.2 a ha b hb
def putb : Nat → Int → List Int
  | 0, _ => []
  | n + 1, v => IntKind.wrap .u8 (v.fdiv (2 ^ (8 * n))) :: putb n v
theorem putb_len : ∀ (n : Nat) (v : Int), (putb n v).length = n
  | 0, v => rfl
  | n + 1, v => by simp [-bind_some, putb, putb_len n v]
def sby (s : Str) : List Int := s.map fun c => (c.toNat : Int)
theorem sby_len (s : Str) : (sby s).length = s.length := by simp [-bind_some, sby]
def pI (n : Int) : List Int := putb 8 (IntKind.wrap .u64 n)
def pN (n : Nat) : List Int := putb 4 (IntKind.wrap .u64 n)
def pS (s : Str) : List Int := pN s.length ++ sby s
theorem pI_len (n : Int) : (pI n).length = 8 := putb_len _ _
theorem pN_len (n : Nat) : (pN n).length = 4 := putb_len _ _
theorem pS_len (s : Str) : (pS s).length = 4 + s.length := by simp [-bind_some, pS, pN_len, sby_len]
def lnB (l : Lin) : List Int := pI l.off ++ pI l.len ++ pS l.txt
def fdB (f : Str × Str) : List Int := pS f.1 ++ pS f.2
def bodyA (i : It) : List Int := pS i.r ++ pI i.e.a0 ++ pI i.e.a1 ++ pI i.e.a2 ++ pI i.e.a3 ++ pN i.e.ls.length
def bodyB (i : It) : List Int := bodyA i ++ (i.e.ls.map lnB).flatten ++ pI i.e.a5 ++ pI i.e.a6 ++ pS i.e.s7 ++ pS i.e.s8 ++ pN i.e.fs.length
def bodyI (i : It) : List Int := bodyB i ++ (i.e.fs.map fdB).flatten
theorem flat_bound {α : Type} (f : α → List Int) (m : Nat) : ∀ (l : List α), (∀ a ∈ l, (f a).length ≤ m) → (l.map f).flatten.length ≤ l.length * m
  | [], _ => by simp
  | a :: l, h => by
    have h1 := h a (by simp)
    have h2 := flat_bound f m l fun b hb => h b (by simp [-bind_some, hb])
    simp only [List.map_cons, List.flatten_cons, List.length_append, List.length_cons, Nat.succ_mul]
    omega
theorem set_spl (row : List D) (off : Nat) (v : D) (hv : v.one = true) (ho : off < row.length) : spl row off (cells1 v) = row.set off v := by
  rw [(one_cells hv).1]
  simp only [spl, List.length_singleton]
  rw [List.set_eq_take_append_cons_drop, if_pos ho]
  simp [-bind_some]
def itc (r : Str) (a0 a1 a2 a3 : Int) (ld : D) (a5 a6 : Int) (s7 s8 : Str) (fd : D) : List D := [.str r, .int .i64 a0, .int .i64 a1, .int .i64 a2, .int .i64 a3, ld, .int .i64 a5, .int .i64 a6, .str s7, .str s8, fd]
structure RI where
  r : Str
  a0 : Int
  a1 : Int
  a2 : Int
  a3 : Int
  ls : List Lin
  a5 : Int
  a6 : Int
  t7 : Str
  t8 : Str
  fs : List (Str × Str)
def RI.row (x : RI) (ld fd : D) : List D := itc x.r x.a0 x.a1 x.a2 x.a3 ld x.a5 x.a6 x.t7 x.t8 fd
def I64 (n : Int) : Prop := -9223372036854775808 ≤ n ∧ n < 9223372036854775808
structure LnR (l : Lin) : Prop where
  o : I64 l.off
  n : I64 l.len
  t : l.txt.length < 4294967296
structure ItR (i : It) : Prop where
  r : i.r.length < 4294967296
  a0 : I64 i.e.a0
  a1 : I64 i.e.a1
  a2 : I64 i.e.a2
  a3 : I64 i.e.a3
  nl : i.e.ls.length < 4294967296
  ls : ∀ l ∈ i.e.ls, LnR l
  a5 : I64 i.e.a5
  a6 : I64 i.e.a6
  t7 : i.e.s7.length < 4294967296
  t8 : i.e.s8.length < 4294967296
  nf : i.e.fs.length < 4294967296
  fs : ∀ p ∈ i.e.fs, p.1.length < 4294967296 ∧ p.2.length < 4294967296
def riOf (i : It) : RI := ⟨i.r, i.e.a0, i.e.a1, i.e.a2, i.e.a3, i.e.ls, i.e.a5, i.e.a6, i.e.s7, i.e.s8, i.e.fs⟩
def mkIt (x : RI) (ld fd : D) (h1 : SlOf 3 linr x.ls ld) (h2 : SlOf 2 fld x.fs fd) (h3 : x.ls.length ≤ 9223372036854775807) (h4 : x.fs.length ≤ 9223372036854775807) : It := ⟨x.r, ⟨x.a0, x.a1, x.a2, x.a3, x.ls, ld, x.a5, x.a6, x.t7, x.t8, x.fs, fd, h2, h4, h1, h3⟩⟩
def zit : It := ⟨[], ⟨0, 0, 0, 0, [], .nils, 0, 0, [], [], [], .nils, SlOf.nils _ _, by simp, SlOf.nils _ _, by simp⟩⟩
theorem mch_txt : ∀ (ls : List Lin) (a b : Int), mch a ls b → 0 ≤ a → b ≤ 1000000 → ∀ l ∈ ls, LnR l ∧ l.txt.length ≤ 200
  | [], a, b, _, _, _, l, hl => by cases hl
  | x :: r, a, b, h, h0, h1, l, hl => by
    obtain ⟨g1, g2, g3, g4, g5⟩ := h
    have hle := mch_le r _ _ g5
    rcases List.mem_cons.1 hl with rfl | hl
    · exact ⟨⟨by unfold I64; omega, by unfold I64; omega, by omega⟩, g4⟩
    · exact mch_txt r _ _ g5 (by omega) (by omega) l hl
theorem itk_r {i : It} (h : ItK i) : ItR i ∧ (bodyI i).length ≤ 20000 := by
  have l3 := h.l3
  have f4 := h.fs
  obtain ⟨ch, a0, a9, l1⟩ := h.ch
  have hle := mch_le _ _ _ ch
  have tx := mch_txt _ _ _ ch a0 (by omega)
  have hh : i.r.length ≤ 32 ∧ i.e.s7.length ≤ 32 ∧ i.e.s8.length ≤ 32 ∧ I64 i.e.a0 ∧ I64 i.e.a1 ∧ I64 i.e.a5 ∧ I64 i.e.a6 ∧ ∀ p ∈ i.e.fs, p.1.length ≤ 1000 ∧ p.2.length ≤ 1000 := by
    rcases h with ⟨hr, g⟩ | g
    · have h1 := g.h0; have h2 := g.h2; have h3 := g.f0; have h4 := g.f2; have h5 := g.t0; have h6 := g.t9
      have hw := (show ∀ s ∈ lt82_14, (-10000 : Int) ≤ s ∧ s ≤ 10000 by decide) _ g.wt
      refine ⟨by rw [hr]; simp [-bind_some], (show ∀ s ∈ lt98_15, s.length ≤ 32 by decide) _ g.tr, (show ∀ s ∈ lt98_16, s.length ≤ 32 by decide) _ g.st, by unfold I64; omega, by unfold I64; omega, by unfold I64; omega, by unfold I64; omega, fun p hp => ⟨?_, (show ∀ s ∈ lt98_18, s.length ≤ 1000 by decide) _ (g.fs.2 p hp)⟩⟩
      exact (show ∀ s ∈ lt98_17, s.length ≤ 1000 by decide) _ (g.fs.1.subset (List.mem_map.2 ⟨p, hp, rfl⟩))
    · have h1 := g.h0; have h2 := g.h2; have h3 := g.f0; have h4 := g.f2; have h5 := g.t0; have h6 := g.w0
      exact ⟨(show ∀ s ∈ lt98_35, s.length ≤ 32 by decide) _ g.r, by rw [g.tr]; simp [-bind_some], by rw [g.st]; simp [-bind_some], by unfold I64; omega, by unfold I64; omega, by unfold I64; omega, by unfold I64; omega, fun p hp => by rw [g.fs] at hp; cases hp⟩
  obtain ⟨r1, r2, r3, r4, r5, r6, r7, r8⟩ := hh
  refine ⟨⟨by omega, r4, r5, by unfold I64; omega, by unfold I64; omega, by omega, fun l hl => (tx l hl).1, r6, r7, by omega, by omega, by omega, fun p hp => by have := r8 p hp; omega⟩, ?_⟩
  have h1 := flat_bound lnB 220 i.e.ls (fun l hl => by
    have := (tx l hl).2
    simp only [lnB, List.length_append, pI_len, pS_len]; omega)
  have h2 : (i.e.fs.map fdB).flatten.length ≤ i.e.fs.length * 2008 := flat_bound fdB 2008 i.e.fs (fun p hp => by
    have := r8 p hp
    simp only [fdB, List.length_append, pS_len]; omega)
  have h8 : (i.e.fs.length * 2008 : Nat) ≤ 4 * 2008 := Nat.mul_le_mul_right _ f4
  have h9 : (i.e.ls.length * 220 : Nat) ≤ 3 * 220 := Nat.mul_le_mul_right _ l3
  simp only [bodyI, bodyB, bodyA, List.length_append, pI_len, pS_len, pN_len]
  omega
theorem set_mid {α : Type} (A B : List α) (x y : α) (n : Nat) (hn : A.length = n) : (A ++ x :: B).set n y = A ++ y :: B := by
  subst hn
  rw [List.set_append_right _ _ (Nat.le_refl _)]
  simp [-bind_some]
theorem get_midn {α : Type} (A B : List α) (x : α) (n : Nat) (hn : A.length = n) : (A ++ x :: B)[n]? = some x := by
  subst hn
  simp [-bind_some]
theorem fldL {g : Hp} {o n : Nat} {rows : List (Str × Str)} {p : Str × Str} (ho : g[o]? = some (.row ty109 2 (rows.map fld))) (hp : rows[n]? = some p) : dLoad tab g ty109 (.ptr o n 0) = some (.agg (fld p)) := by
  have hr : (rows.map fld)[n]? = some (fld p) := by rw [List.getElem?_map, hp]; rfl
  rw [ldp109, row_of ho, hr]
  rfl
theorem w1069 {g : Hp} {o N : Nat} {P X M Y Q : List (Str × Str)} (hN : N ≤ 1000000000) (hlen : (P ++ X ++ M ++ Y ++ Q).length = N) (hxy : X.length = Y.length) (ho : g[o]? = some (.row ty109 2 ((P ++ X ++ M ++ Y ++ Q).map fld))) (cmp : D) (a b k : Int) (ha : a = P.length) (hb : b = (P.length + X.length + M.length : Nat)) (hk : k = X.length) {β : Type} {f : D × Hp → Option β} {R1 : β → Prop}
    (K : ∀ g', g'[o]? = some (.row ty109 2 ((P ++ Y ++ M ++ X ++ Q).map fld)) → Same o g g' → Wp (f (mkRes [], g')) R1) : Wp ((R fn1069 [.msl 2 o 0 N, .int .i64 a, .int .i64 b, .int .i64 k, cmp] g).bind f) R1 := by
  subst ha hb hk
  rw [e1069]
  simp only [F1069, bs, Option.bind_assoc]
  simp only [List.length_append] at hlen
  refine Wp.loop (fun kk ds g' => ∃ x, ∃ i : Nat, ds = [.int .i64 i, x] ∧ kk + i = X.length ∧ Same o g g' ∧ g'[o]? = some (.row ty109 2 ((P ++ Y.take i ++ X.drop i ++ M ++ X.take i ++ Y.drop i ++ Q).map fld)))
    (fun r => r.1 = .ext 0 ∧ (∃ x y, r.2.1 = [x, y]) ∧ Same o g r.2.2 ∧ r.2.2[o]? = some (.row ty109 2 ((P ++ Y ++ M ++ X ++ Q).map fld))) X.length ⟨_, 0, rfl, rfl, ⟨rfl, fun _ _ => rfl⟩, by simpa using ho⟩ ?_ ?_
  · rintro kk ds g' ⟨x1, i, rfl, hk, sm, ho'⟩
    simp only [F1069_L0, nth_zero, nth_succ, bs, Option.bind_assoc, dBin_lss]
    refine Wp.dif ?_ ?_
    · intro h0
      have h0 : i < X.length := by have : (i : Int) < X.length := by simpa using h0
                                   omega
      obtain ⟨x, hx⟩ : ∃ x, X[i]? = some x := ⟨_, List.getElem?_eq_getElem h0⟩
      obtain ⟨y, hy⟩ : ∃ y, Y[i]? = some y := ⟨_, List.getElem?_eq_getElem (by omega)⟩
      have hdx : X.drop i = x :: X.drop (i + 1) := by
        obtain ⟨hn, hh⟩ := List.getElem?_eq_some_iff.1 hx
        rw [List.drop_eq_getElem_cons hn, hh]
      have hdy : Y.drop i = y :: Y.drop (i + 1) := by
        obtain ⟨hn, hh⟩ := List.getElem?_eq_some_iff.1 hy
        rw [List.drop_eq_getElem_cons hn, hh]
      have hw : IntKind.wrap .i64 ((i : Int) + 1) = ((i + 1 : Nat) : Int) := by
        rw [wrap_i64 (by omega) (by omega)]; omega
      have wa : IntKind.wrap .i64 ((P.length : Int) + i) = ((P.length + i : Nat) : Int) := by
        rw [wrap_i64 (by omega) (by omega)]; omega
      have wb : IntKind.wrap .i64 (((P.length + X.length + M.length : Nat) : Int) + i) = ((P.length + X.length + M.length + i : Nat) : Int) := by
        rw [wrap_i64 (by omega) (by omega)]; omega
      have e1 : P ++ Y.take i ++ X.drop i ++ M ++ X.take i ++ Y.drop i ++ Q = (P ++ Y.take i) ++ x :: (X.drop (i + 1) ++ M ++ X.take i ++ y :: (Y.drop (i + 1) ++ Q)) := by rw [hdx, hdy]; simp [-bind_some]
      have e2 : (P ++ Y.take i) ++ x :: (X.drop (i + 1) ++ M ++ X.take i ++ y :: (Y.drop (i + 1) ++ Q)) = (P ++ Y.take i ++ x :: (X.drop (i + 1) ++ M ++ X.take i)) ++ y :: (Y.drop (i + 1) ++ Q) := by simp
      have e3 : (P ++ Y.take i) ++ y :: (X.drop (i + 1) ++ M ++ X.take i ++ y :: (Y.drop (i + 1) ++ Q)) = (P ++ Y.take i ++ y :: (X.drop (i + 1) ++ M ++ X.take i)) ++ y :: (Y.drop (i + 1) ++ Q) := by simp
      have e4 : (P ++ Y.take i ++ y :: (X.drop (i + 1) ++ M ++ X.take i)) ++ x :: (Y.drop (i + 1) ++ Q) = P ++ Y.take (i + 1) ++ X.drop (i + 1) ++ M ++ X.take (i + 1) ++ Y.drop (i + 1) ++ Q := by
        rw [List.take_add_one, List.take_add_one, hx, hy]; simp [-bind_some]
      have n1 : (P ++ Y.take i).length = P.length + i := by simp; omega
      have n2 : ∀ z, (P ++ Y.take i ++ z :: (X.drop (i + 1) ++ M ++ X.take i)).length = P.length + X.length + M.length + i := fun z => by simp; omega
      rw [e1] at ho'
      have la := fldL ho' (get_midn _ _ x _ n1)
      have lb := fldL ho' (by rw [e2]; exact get_midn _ _ y _ (n2 x))
      have ia : dIndexAddr tab ty29 (.msl 2 o 0 N) (.int .i64 ((P.length + i : Nat) : Int)) = some (.ptr o (P.length + i) 0) := by rw [ixm29, if_pos (by omega), Int.toNat_natCast, Nat.zero_add]
      have ib : dIndexAddr tab ty29 (.msl 2 o 0 N) (.int .i64 ((P.length + X.length + M.length + i : Nat) : Int)) = some (.ptr o (P.length + X.length + M.length + i) 0) := by rw [ixm29, if_pos (by omega), Int.toNat_natCast, Nat.zero_add]
      simp only [dBin_add, wa, wb, ia, ib, la, lb, bs, Option.bind_assoc]
      have ra : (((P ++ Y.take i) ++ x :: (X.drop (i + 1) ++ M ++ X.take i ++ y :: (Y.drop (i + 1) ++ Q))).map fld)[P.length + i]? = some (fld x) := by rw [List.getElem?_map, get_midn _ _ x _ n1]; rfl
      refine wst109 (off := 0) (row := fld x) (v := .agg (fld y)) ho' ra (by rfl) (by exact Nat.le_refl _) (by rfl) fun g1 p1 w1 => ?_
      have p1 : g1[o]? = some (.row ty109 2 (((P ++ Y.take i ++ y :: (X.drop (i + 1) ++ M ++ X.take i)) ++ y :: (Y.drop (i + 1) ++ Q)).map fld)) := by
        rw [p1, show spl (fld x) 0 (cells1 (.agg (fld y))) = fld y from rfl, ← List.map_set, set_mid _ _ x y _ n1, e3]
      try simp only [bs]
      have rb : (((P ++ Y.take i ++ y :: (X.drop (i + 1) ++ M ++ X.take i)) ++ y :: (Y.drop (i + 1) ++ Q)).map fld)[P.length + X.length + M.length + i]? = some (fld y) := by rw [List.getElem?_map, get_midn _ _ y _ (n2 y)]; rfl
      refine wst109 (off := 0) (row := fld y) (v := .agg (fld x)) p1 rb (by rfl) (by exact Nat.le_refl _) (by rfl) fun g2 p2 w2 => ?_
      have p2 : g2[o]? = some (.row ty109 2 ((P ++ Y.take (i + 1) ++ X.drop (i + 1) ++ M ++ X.take (i + 1) ++ Y.drop (i + 1) ++ Q).map fld)) := by
        rw [p2, show spl (fld y) 0 (cells1 (.agg (fld x))) = fld x from rfl, ← List.map_set, set_mid _ _ y x _ (n2 y), e4]
      simp only [bs, hw]
      exact .some (.inl ⟨rfl, kk - 1, by omega, _, i + 1, rfl, by omega, (sm.trans w1).trans w2, p2⟩)
    · intro h0
      have h0 : i = X.length := by have : ¬ (i : Int) < X.length := by simpa using h0
                                   omega
      subst h0
      refine .some (.inr ⟨by simp, rfl, ⟨_, _, rfl⟩, sm, ?_⟩)
      rw [ho', hxy, List.take_length, List.drop_length, ← hxy, List.take_length, List.drop_length]
      simp [-bind_some]
  · rintro ⟨ex, ds, g'⟩ ⟨rfl, ⟨x, y, rfl⟩, sm, p⟩
    simp only [unblk_self, exEnd_nrm, bs]
    exact K g' p sm
theorem w1068 {g : Hp} {o N : Nat} {P U V Q : List (Str × Str)} (hN : N ≤ 1000000000) (hlen : (P ++ U ++ V ++ Q).length = N) (hU : 0 < U.length) (hV : 0 < V.length) (ho : g[o]? = some (.row ty109 2 ((P ++ U ++ V ++ Q).map fld))) (cmp : D) (a m b : Int) (ha : a = P.length) (hm : m = (P.length + U.length : Nat)) (hb : b = (P.length + U.length + V.length : Nat)) {β : Type} {f : D × Hp → Option β} {R1 : β → Prop}
    (K : ∀ g', g'[o]? = some (.row ty109 2 ((P ++ V ++ U ++ Q).map fld)) → Same o g g' → Wp (f (mkRes [], g')) R1) : Wp ((R fn1068 [.msl 2 o 0 N, .int .i64 a, .int .i64 m, .int .i64 b, cmp] g).bind f) R1 := by
  obtain ⟨mm, hmm⟩ : ∃ mm : Nat, mm = P.length + U.length := ⟨_, rfl⟩
  rw [← hmm] at hm
  subst ha hm hb
  have hl := hlen
  simp only [List.length_append] at hl
  have w1 : IntKind.wrap .i64 ((mm : Int) - (P.length : Int)) = (U.length : Int) := by rw [wrap_i64 (by omega) (by omega)]; omega
  have w2 : IntKind.wrap .i64 (((P.length + U.length + V.length : Nat) : Int) - (mm : Int)) = (V.length : Int) := by rw [wrap_i64 (by omega) (by omega)]; omega
  rw [e1068]
  simp only [F1068, bs, Option.bind_assoc, dBin_sub, w1, w2]
  refine Wp.loop (fun kk ds g' => ∃ x y, ∃ P' U' V' Q' : List (Str × Str), ds = [.int .i64 U'.length, .int .i64 V'.length, x, y] ∧ kk = U'.length + V'.length ∧ 0 < U'.length ∧ 0 < V'.length ∧ P'.length + U'.length = mm ∧ P' ++ V' ++ U' ++ Q' = P ++ V ++ U ++ Q ∧ (P' ++ U' ++ V' ++ Q').length = N ∧ Same o g g' ∧ g'[o]? = some (.row ty109 2 ((P' ++ U' ++ V' ++ Q').map fld)))
    (fun r => r.1 = .ext 0 ∧ ∃ x y, ∃ P' U' V' Q' : List (Str × Str), r.2.1 = [.int .i64 U'.length, .int .i64 V'.length, x, y] ∧ U'.length = V'.length ∧ P'.length + U'.length = mm ∧ P' ++ V' ++ U' ++ Q' = P ++ V ++ U ++ Q ∧ (P' ++ U' ++ V' ++ Q').length = N ∧ Same o g r.2.2 ∧ r.2.2[o]? = some (.row ty109 2 ((P' ++ U' ++ V' ++ Q').map fld)))
    (U.length + V.length) ⟨_, _, P, U, V, Q, rfl, rfl, hU, hV, by omega, rfl, hlen, ⟨rfl, fun _ _ => rfl⟩, ho⟩ ?_ ?_
  · rintro kk ds g' ⟨x, y, P', U', V', Q', rfl, hk, h1, h2, h3, h4, h5, sm, ho'⟩
    have hl' := h5
    simp only [List.length_append] at hl'
    simp only [F1068_L0, nth_zero, nth_succ, bs, Option.bind_assoc, dBin_neq]
    refine Wp.dif ?_ ?_
    · intro h0
      have h0 : U'.length ≠ V'.length := by have : ¬ (U'.length : Int) = V'.length := by simpa using h0
                                            omega
      simp only [dBin_gtr, bs]
      have wi : IntKind.wrap .i64 ((mm : Int) - (U'.length : Int)) = (P'.length : Int) := by rw [wrap_i64 (by omega) (by omega)]; omega
      by_cases hgt : V'.length < U'.length
      · have hd : decide ((U'.length : Int) > (V'.length : Int)) = true := decide_eq_true (by omega)
        obtain ⟨X, M, hXM, hXl⟩ : ∃ X M, U' = X ++ M ∧ X.length = V'.length := ⟨U'.take V'.length, U'.drop V'.length, (List.take_append_drop _ _).symm, by simp; omega⟩
        subst hXM
        simp only [List.length_append] at *
        have wd : IntKind.wrap .i64 (((X.length + M.length : Nat) : Int) - (V'.length : Int)) = (M.length : Int) := by rw [wrap_i64 (by omega) (by omega)]; omega
        simp only [hd, dIf_bool, if_true, dBin_sub, wi, wd, bs, Option.bind_assoc]
        refine w1069 (P := P') (X := X) (M := M) (Y := V') (Q := Q') hN (by simp only [List.length_append]; omega) hXl (by simpa using ho') cmp _ _ _ rfl (by omega) (by omega) fun g1 p1 s1' => ?_
        simp only [bs, unblk_nrm, nth_zero, nth_succ]
        rw [← hXl]
        refine .some (.inl ⟨rfl, M.length + X.length, by omega, _, _, P' ++ V', M, X, Q', rfl, rfl, by omega, by omega, by simp only [List.length_append]; omega, by rw [← h4]; simp [-bind_some], by simp only [List.length_append]; omega, sm.trans s1', by rw [p1]⟩)
      · have hd : decide ((U'.length : Int) > (V'.length : Int)) = false := decide_eq_false (by omega)
        obtain ⟨M, Y, hMY, hYl⟩ : ∃ M Y, V' = M ++ Y ∧ Y.length = U'.length := ⟨V'.take (V'.length - U'.length), V'.drop (V'.length - U'.length), (List.take_append_drop _ _).symm, by simp; omega⟩
        subst hMY
        simp only [List.length_append] at *
        have we : IntKind.wrap .i64 ((mm : Int) + ((M.length + Y.length : Nat) : Int)) = ((mm + (M.length + Y.length) : Nat) : Int) := by rw [wrap_i64 (by omega) (by omega)]; omega
        have wf' : IntKind.wrap .i64 (((mm + (M.length + Y.length) : Nat) : Int) - (U'.length : Int)) = ((P'.length + U'.length + M.length : Nat) : Int) := by rw [wrap_i64 (by omega) (by omega)]; omega
        have wd : IntKind.wrap .i64 (((M.length + Y.length : Nat) : Int) - (U'.length : Int)) = (M.length : Int) := by rw [wrap_i64 (by omega) (by omega)]; omega
        simp only [hd, dIf_bool, Bool.false_eq_true, if_false, dBin_sub, dBin_add, wi, we, wf', wd, bs, Option.bind_assoc]
        refine w1069 (P := P') (X := U') (M := M) (Y := Y) (Q := Q') hN (by simp only [List.length_append]; omega) hYl.symm (by simpa using ho') cmp _ _ _ rfl rfl rfl fun g1 p1 s1' => ?_
        simp only [bs, unblk_nrm, nth_zero, nth_succ]
        rw [← hYl]
        refine .some (.inl ⟨rfl, Y.length + M.length, by omega, _, _, P', Y, M, U' ++ Q', rfl, rfl, by omega, by omega, by omega, by rw [← h4]; simp [-bind_some], by simp only [List.length_append]; omega, sm.trans s1', by rw [p1]; simp [-bind_some]⟩)
    · intro h0
      have h0 : U'.length = V'.length := by have : (U'.length : Int) = V'.length := by simpa using h0
                                            omega
      exact .some (.inr ⟨by simp, rfl, _, _, P', U', V', Q', rfl, h0, h3, h4, h5, sm, ho'⟩)
  · rintro ⟨ex, ds, g'⟩ ⟨rfl, x, y, P', U', V', Q', rfl, h0, h3, h4, h5, sm, ho'⟩
    have hl' := h5
    simp only [List.length_append] at hl'
    have wi : IntKind.wrap .i64 ((mm : Int) - (U'.length : Int)) = (P'.length : Int) := by rw [wrap_i64 (by omega) (by omega)]; omega
    simp only [unblk_self, toEnd_nrm, nth_zero, nth_succ, bs, Option.bind_assoc, dBin_sub, wi]
    refine w1069 (P := P') (X := U') (M := []) (Y := V') (Q := Q') hN (by simp only [List.length_append, List.length_nil]; omega) h0 (by simpa using ho') cmp _ _ _ rfl (by simp only [List.length_nil]; omega) rfl fun g1 p1 s1' => ?_
    simp only [bs]
    refine K g1 ?_ (sm.trans s1')
    rw [p1, ← h4]
    simp [-bind_some]
theorem swap_wp {g : Hp} {o : Nat} {A B : List (Str × Str)} {x y : Str × Str} {n : Nat} (hn : A.length = n) (ho : g[o]? = some (.row ty109 2 ((A ++ x :: y :: B).map fld))) {β : Type} {f : Hp → Option β} {Q : β → Prop}
    (K : ∀ g', g'[o]? = some (.row ty109 2 ((A ++ y :: x :: B).map fld)) → Same o g g' → Wp (f g') Q) : Wp ((dStore tab g ty109 (.ptr o n 0) (.agg (fld y))).bind fun g1 => (dStore tab g1 ty109 (.ptr o (n + 1) 0) (.agg (fld x))).bind f) Q := by
  have ra : ((A ++ x :: y :: B).map fld)[n]? = some (fld x) := by rw [List.getElem?_map, get_midn _ _ x _ hn]; rfl
  refine wst109 (off := 0) (row := fld x) (v := .agg (fld y)) ho ra (by rfl) (by exact Nat.le_refl _) (by rfl) fun g1 p1 w1 => ?_
  have e1 : A ++ y :: y :: B = (A ++ [y]) ++ y :: B := by simp
  have n1 : (A ++ [y]).length = n + 1 := by simp [-bind_some, hn]
  have p1 : g1[o]? = some (.row ty109 2 (((A ++ [y]) ++ y :: B).map fld)) := by
    rw [p1, show spl (fld x) 0 (cells1 (.agg (fld y))) = fld y from rfl, ← List.map_set, set_mid _ _ x y _ hn, e1]
  have rb : (((A ++ [y]) ++ y :: B).map fld)[n + 1]? = some (fld y) := by rw [List.getElem?_map, get_midn _ _ y _ n1]; rfl
  refine wst109 (off := 0) (row := fld y) (v := .agg (fld x)) p1 rb (by rfl) (by exact Nat.le_refl _) (by rfl) fun g2 p2 w2 => ?_
  refine K g2 ?_ (w1.trans w2)
  rw [p2, show spl (fld y) 0 (cells1 (.agg (fld x))) = fld x from rfl, ← List.map_set, set_mid _ _ y x _ n1]
  simp [-bind_some]
theorem swap_wp2 {g : Hp} {o : Nat} {A B : List (Str × Str)} {x y : Str × Str} {n : Nat} (hn : A.length = n) (ho : g[o]? = some (.row ty109 2 ((A ++ x :: y :: B).map fld))) {β : Type} {f : Hp → Option β} {Q : β → Prop}
    (K : ∀ g', g'[o]? = some (.row ty109 2 ((A ++ y :: x :: B).map fld)) → Same o g g' → Wp (f g') Q) : Wp ((dStore tab g ty109 (.ptr o (n + 1) 0) (.agg (fld x))).bind fun g1 => (dStore tab g1 ty109 (.ptr o n 0) (.agg (fld y))).bind f) Q := by
  have e1 : A ++ x :: y :: B = (A ++ [x]) ++ y :: B := by simp
  have n1 : (A ++ [x]).length = n + 1 := by simp [-bind_some, hn]
  rw [e1] at ho
  have rb : (((A ++ [x]) ++ y :: B).map fld)[n + 1]? = some (fld y) := by rw [List.getElem?_map, get_midn _ _ y _ n1]; rfl
  refine wst109 (off := 0) (row := fld y) (v := .agg (fld x)) ho rb (by rfl) (by exact Nat.le_refl _) (by rfl) fun g1 p1 w1 => ?_
  have p1 : g1[o]? = some (.row ty109 2 ((A ++ x :: x :: B).map fld)) := by
    rw [p1, show spl (fld y) 0 (cells1 (.agg (fld x))) = fld x from rfl, ← List.map_set, set_mid _ _ y x _ n1]
    simp [-bind_some]
  have ra : ((A ++ x :: x :: B).map fld)[n]? = some (fld x) := by rw [List.getElem?_map, get_midn _ _ x _ hn]; rfl
  refine wst109 (off := 0) (row := fld x) (v := .agg (fld y)) p1 ra (by rfl) (by exact Nat.le_refl _) (by rfl) fun g2 p2 w2 => ?_
  refine K g2 ?_ (w1.trans w2)
  rw [p2, show spl (fld x) 0 (cells1 (.agg (fld y))) = fld y from rfl, ← List.map_set, set_mid _ _ x y _ hn]
theorem ix29n {o N n : Nat} (h : n < N) : dIndexAddr tab ty29 (.msl 2 o 0 N) (.int .i64 (n : Int)) = some (.ptr o n 0) := by rw [ixm29, if_pos (by omega), Int.toNat_natCast, Nat.zero_add]
theorem wL4 {g : Hp} {o N : Nat} {P A Q : List (Str × Str)} {x : Str × Str} (hN : N ≤ 1000000000) (hlen : (P ++ x :: A ++ Q).length = N) (ho : g[o]? = some (.row ty109 2 ((P ++ x :: A ++ Q).map fld))) (r14 : Out) (hr : nth 0 r14.2.1 = .int .i64 ((P.length + A.length + 1 : Nat) : Int)) (a : Int) (ha : a = P.length) (x1 : D) {β : Type} {f : Out → Option β} {R1 : β → Prop}
    (K : ∀ g' b1 b2, g'[o]? = some (.row ty109 2 ((P ++ A ++ x :: Q).map fld)) → Same o g g' → Wp (f (.ext 2, [b1, b2], g')) R1) : Wp ((loopW (F1066_L4 (.msl 2 o 0 N) r14) [.int .i64 a, x1] g).bind f) R1 := by
  subst ha
  simp only [List.length_append, List.length_cons] at hlen
  refine Wp.loop (fun kk ds g' => ∃ y, ∃ i : Nat, ds = [.int .i64 ((P.length + i : Nat) : Int), y] ∧ kk + i = A.length ∧ Same o g g' ∧ g'[o]? = some (.row ty109 2 ((P ++ A.take i ++ x :: (A.drop i ++ Q)).map fld)))
    (fun r => r.1 = .ext 2 ∧ (∃ b1 b2, r.2.1 = [b1, b2]) ∧ Same o g r.2.2 ∧ r.2.2[o]? = some (.row ty109 2 ((P ++ A ++ x :: Q).map fld))) A.length ⟨_, 0, rfl, rfl, ⟨rfl, fun _ _ => rfl⟩, by simpa using ho⟩ ?_ ?_
  · rintro kk ds g' ⟨y1, i, rfl, hk, sm, ho'⟩
    have w0 : IntKind.wrap .i64 (((P.length + A.length + 1 : Nat) : Int) - 1) = ((P.length + A.length : Nat) : Int) := by rw [wrap_i64 (by omega) (by omega)]; omega
    simp only [F1066_L4, nth_zero, nth_succ, bs, Option.bind_assoc, hr, dBin_sub, w0, dBin_lss]
    refine Wp.dif ?_ ?_
    · intro h0
      have h0 : i < A.length := by have : ((P.length + i : Nat) : Int) < ((P.length + A.length : Nat) : Int) := by simpa using h0
                                   omega
      obtain ⟨y, hy⟩ : ∃ y, A[i]? = some y := ⟨_, List.getElem?_eq_getElem h0⟩
      have hdy : A.drop i = y :: A.drop (i + 1) := by
        obtain ⟨hn, hh⟩ := List.getElem?_eq_some_iff.1 hy
        rw [List.drop_eq_getElem_cons hn, hh]
      have hw : IntKind.wrap .i64 (((P.length + i : Nat) : Int) + 1) = ((P.length + i + 1 : Nat) : Int) := by
        rw [wrap_i64 (by omega) (by omega)]; omega
      have e1 : P ++ A.take i ++ x :: (A.drop i ++ Q) = (P ++ A.take i) ++ x :: y :: (A.drop (i + 1) ++ Q) := by rw [hdy]; simp [-bind_some]
      have e2 : (P ++ A.take i ++ [x]) ++ y :: (A.drop (i + 1) ++ Q) = (P ++ A.take i) ++ x :: y :: (A.drop (i + 1) ++ Q) := by simp
      have n1 : (P ++ A.take i).length = P.length + i := by simp; omega
      have n2 : (P ++ A.take i ++ [x]).length = P.length + i + 1 := by simp; omega
      rw [e1] at ho'
      have la := fldL ho' (get_midn _ _ x _ n1)
      have lb := fldL ho' (by rw [← e2]; exact get_midn _ _ y _ n2)
      have ia := @ix29n o N (P.length + i) (by omega)
      have ib := @ix29n o N (P.length + i + 1) (by omega)
      simp only [dBin_add, hw, ia, ib, la, lb, bs, Option.bind_assoc]
      refine swap_wp n1 ho' fun g2 p2 w2 => ?_
      try simp only [bs]
      refine .some (.inl ⟨rfl, kk - 1, by omega, _, i + 1, rfl, by omega, sm.trans w2, ?_⟩)
      rw [p2, List.take_add_one, hy]
      simp [-bind_some]
    · intro h0
      have h0 : i = A.length := by have : ¬ ((P.length + i : Nat) : Int) < ((P.length + A.length : Nat) : Int) := by simpa using h0
                                   omega
      subst h0
      rw [List.take_length, List.drop_length] at ho'
      exact .some (.inr ⟨by simp, rfl, ⟨_, _, rfl⟩, sm, by simpa using ho'⟩)
  · rintro ⟨ex, ds, g'⟩ ⟨rfl, ⟨b1, b2, rfl⟩, sm, p⟩
    exact K g' b1 b2 p sm
theorem wL2 {g : Hp} {o N : Nat} {P A Q : List (Str × Str)} {x : Str × Str} (hN : N ≤ 1000000000) (hlen : (P ++ A ++ x :: Q).length = N) (ho : g[o]? = some (.row ty109 2 ((P ++ A ++ x :: Q).map fld))) (r9 : Out) (hr : nth 0 r9.2.1 = .int .i64 (P.length : Int)) (m : Int) (hm : m = (P.length + A.length : Nat)) (x1 : D) {β : Type} {f : Out → Option β} {R1 : β → Prop}
    (K : ∀ g' b1 b2, g'[o]? = some (.row ty109 2 ((P ++ x :: A ++ Q).map fld)) → Same o g g' → Wp (f (.ext 6, [b1, b2], g')) R1) : Wp ((loopW (F1066_L2 (.msl 2 o 0 N) r9) [.int .i64 m, x1] g).bind f) R1 := by
  subst hm
  simp only [List.length_append, List.length_cons] at hlen
  refine Wp.loop (fun kk ds g' => ∃ y, ds = [.int .i64 ((P.length + kk : Nat) : Int), y] ∧ kk ≤ A.length ∧ Same o g g' ∧ g'[o]? = some (.row ty109 2 ((P ++ A.take kk ++ x :: (A.drop kk ++ Q)).map fld)))
    (fun r => r.1 = .ext 6 ∧ (∃ b1 b2, r.2.1 = [b1, b2]) ∧ Same o g r.2.2 ∧ r.2.2[o]? = some (.row ty109 2 ((P ++ x :: A ++ Q).map fld))) A.length ⟨_, rfl, Nat.le_refl _, ⟨rfl, fun _ _ => rfl⟩, by simpa using ho⟩ ?_ ?_
  · rintro kk ds g' ⟨y1, rfl, hk, sm, ho'⟩
    simp only [F1066_L2, nth_zero, nth_succ, bs, Option.bind_assoc, hr, dBin_gtr]
    refine Wp.dif ?_ ?_
    · intro h0
      have h0 : 0 < kk := by have : ((P.length + kk : Nat) : Int) > (P.length : Int) := by simpa using h0
                             omega
      obtain ⟨i, rfl⟩ : ∃ i, kk = i + 1 := ⟨kk - 1, by omega⟩
      obtain ⟨y, hy⟩ : ∃ y, A[i]? = some y := ⟨_, List.getElem?_eq_getElem (by omega)⟩
      have hdy : A.drop i = y :: A.drop (i + 1) := by
        obtain ⟨hn, hh⟩ := List.getElem?_eq_some_iff.1 hy
        rw [List.drop_eq_getElem_cons hn, hh]
      have hw : IntKind.wrap .i64 (((P.length + (i + 1) : Nat) : Int) - 1) = ((P.length + i : Nat) : Int) := by
        rw [wrap_i64 (by omega) (by omega)]; omega
      have e1 : P ++ A.take (i + 1) ++ x :: (A.drop (i + 1) ++ Q) = (P ++ A.take i) ++ y :: x :: (A.drop (i + 1) ++ Q) := by rw [List.take_add_one, hy]; simp [-bind_some]
      have e2 : (P ++ A.take i ++ [y]) ++ x :: (A.drop (i + 1) ++ Q) = (P ++ A.take i) ++ y :: x :: (A.drop (i + 1) ++ Q) := by simp
      have n1 : (P ++ A.take i).length = P.length + i := by simp; omega
      have n2 : (P ++ A.take i ++ [y]).length = P.length + i + 1 := by simp; omega
      rw [e1] at ho'
      have la := fldL ho' (get_midn _ _ y _ n1)
      have lb := fldL ho' (by rw [← e2]; exact get_midn _ _ x _ n2)
      have ia := @ix29n o N (P.length + i) (by omega)
      have ib := @ix29n o N (P.length + (i + 1)) (by omega)
      rw [show P.length + (i + 1) = P.length + i + 1 from rfl] at hw ib ⊢
      simp only [dBin_sub, hw, ia, ib, la, lb, bs, Option.bind_assoc]
      refine swap_wp2 n1 ho' fun g2 p2 w2 => ?_
      try simp only [bs]
      refine .some (.inl ⟨rfl, i, by omega, _, rfl, by omega, sm.trans w2, ?_⟩)
      rw [p2, hdy]
      simp [-bind_some]
    · intro h0
      have h0 : kk = 0 := by have : ¬ ((P.length + kk : Nat) : Int) > (P.length : Int) := by simpa using h0
                             omega
      subst h0
      exact .some (.inr ⟨by simp, rfl, ⟨_, _, rfl⟩, sm, by simpa using ho'⟩)
  · rintro ⟨ex, ds, g'⟩ ⟨rfl, ⟨b1, b2, rfl⟩, sm, p⟩
    exact K g' b1 b2 p sm
theorem mid_ok {i j : Nat} (hi : i ≤ 1000000000) (hj : j ≤ 1000000000) : IntKind.wrap .i64 ((i : Int) + j) = ((i + j : Nat) : Int) ∧ IntKind.wrap .u64 ((i + j : Nat) : Int) = ((i + j : Nat) : Int) ∧ (((i + j : Nat) : Int)).fdiv (2 ^ min ((1 : Int).toNat) IntKind.u64.bits) = (((i + j) / 2 : Nat) : Int) ∧ IntKind.wrap .i64 (((i + j) / 2 : Nat) : Int) = (((i + j) / 2 : Nat) : Int) := by
  have m1 : min ((1 : Int).toNat) IntKind.u64.bits = 1 := by decide
  have p1 : (2 : Int) ^ 1 = 2 := by decide
  refine ⟨?_, wrap_u64 (by omega) (by omega), ?_, wrap_i64 (by omega) (by omega)⟩
  · rw [wrap_i64 (by omega) (by omega)]; omega
  · rw [m1, p1, Int.fdiv_eq_ediv_of_nonneg _ (by omega)]; omega
theorem wL3 {g : Hp} {o N : Nat} {L : List (Str × Str)} (hN : N ≤ 1000000000) (hlen : L.length = N) (ho : g[o]? = some (.row ty109 2 (L.map fld))) (cmp : D) (a m b : Nat) (q : Nat → Prop) (ha : a < N) (hmb : m ≤ b) (hbN : b ≤ N) (x : Str × Str) (hx : L[a]? = some x)
    (hc : ∀ t y, m ≤ t → t < b → L[t]? = some y → ∃ v, callV R cmp [.agg (fld y), .agg (fld x)] g = some (.int .i64 v, g) ∧ (v < 0 ↔ q t)) (x1 x2 x3 : D) {β : Type} {f : Out → Option β} {Q : β → Prop}
    (K : ∀ (c : Nat) b1 b2 b3, m ≤ c → c ≤ b → (c = m ∨ q (c - 1)) → (c = b ∨ ¬ q c) → Wp (f (.ext 0, [.int .i64 (c : Int), .int .i64 (c : Int), b1, b2, b3], g)) Q) : Wp ((loopW (F1066_L3 (.msl 2 o 0 N) (.int .i64 (a : Int)) cmp) [.int .i64 (m : Int), .int .i64 (b : Int), x1, x2, x3] g).bind f) Q := by
  refine Wp.loop (fun kk ds g' => g' = g ∧ ∃ y1 y2 y3, ∃ i j : Nat, ds = [.int .i64 (i : Int), .int .i64 (j : Int), y1, y2, y3] ∧ kk = j - i ∧ m ≤ i ∧ i ≤ j ∧ j ≤ b ∧ (i = m ∨ q (i - 1)) ∧ (j = b ∨ ¬ q j))
    (fun r => r.1 = .ext 0 ∧ r.2.2 = g ∧ ∃ b1 b2 b3, ∃ c : Nat, r.2.1 = [.int .i64 (c : Int), .int .i64 (c : Int), b1, b2, b3] ∧ m ≤ c ∧ c ≤ b ∧ (c = m ∨ q (c - 1)) ∧ (c = b ∨ ¬ q c)) (b - m) ⟨rfl, _, _, _, m, b, rfl, rfl, Nat.le_refl _, hmb, Nat.le_refl _, .inl rfl, .inl rfl⟩ ?_ ?_
  · rintro kk ds g' ⟨rfl, y1, y2, y3, i, j, rfl, hk, h1, h2, h3, h4, h5⟩
    simp only [F1066_L3, nth_zero, nth_succ, bs, Option.bind_assoc, dBin_lss]
    refine Wp.dif ?_ ?_
    · intro h0
      have h0 : i < j := by have : (i : Int) < (j : Int) := by simpa using h0
                            omega
      obtain ⟨u1, u2, u3, u4⟩ := @mid_ok i j (by omega) (by omega)
      obtain ⟨y, hy⟩ : ∃ y, L[(i + j) / 2]? = some y := ⟨_, List.getElem?_eq_getElem (by omega)⟩
      obtain ⟨v, hv, hvc⟩ := hc ((i + j) / 2) y (by omega) (by omega) hy
      have ia := @ix29n o N ((i + j) / 2) (by omega)
      have ib := @ix29n o N a ha
      have la := fldL ho hy
      have lb := fldL ho hx
      have w1 : IntKind.wrap .i64 ((((i + j) / 2 : Nat) : Int) + 1) = (((i + j) / 2 + 1 : Nat) : Int) := by rw [wrap_i64 (by omega) (by omega)]; omega
      simp only [dBin_add, u1, cv3_134, u2, dBin_shr, show ¬ (1 : Int) < 0 by omega, if_false, u3, cv134_3, u4, ia, ib, la, lb, hv, bs, dBin_lss, Option.bind_assoc]
      by_cases hlt : v < 0
      · have := hvc.1 hlt
        simp only [hlt, decide_true, dIf_bool, if_true, w1, bs, unblk_nrm, nth_zero, nth_succ]
        exact .some (.inl ⟨rfl, j - ((i + j) / 2 + 1), by omega, rfl, _, _, _, _, _, rfl, rfl, by omega, by omega, by omega, .inr (by simpa using this), h5⟩)
      · have := fun h => hlt (hvc.2 h)
        simp only [hlt, decide_false, dIf_bool, Bool.false_eq_true, if_false, bs, unblk_nrm, nth_zero, nth_succ]
        exact .some (.inl ⟨rfl, (i + j) / 2 - i, by omega, rfl, _, _, _, _, _, rfl, rfl, by omega, by omega, by omega, h4, .inr this⟩)
    · intro h0
      have h0 : ¬ i < j := by have : ¬ (i : Int) < (j : Int) := by simpa using h0
                              omega
      obtain rfl : j = i := by omega
      exact .some (.inr ⟨by simp, rfl, rfl, _, _, _, j, rfl, h1, h3, h4, h5⟩)
  · rintro ⟨ex, ds, g'⟩ ⟨rfl, q2, b1, b2, b3, c, rfl, k1, k2, k3, k4⟩
    simp only at q2
    subst q2
    exact K c b1 b2 b3 k1 k2 k3 k4
theorem wL1 {g : Hp} {o N : Nat} {L : List (Str × Str)} (hN : N ≤ 1000000000) (hlen : L.length = N) (ho : g[o]? = some (.row ty109 2 (L.map fld))) (cmp : D) (m a b : Nat) (q : Nat → Prop) (hmN : m < N) (hmb : a ≤ b) (hbN : b ≤ N) (x : Str × Str) (hx : L[m]? = some x)
    (hc : ∀ t y, a ≤ t → t < b → L[t]? = some y → ∃ v, callV R cmp [.agg (fld x), .agg (fld y)] g = some (.int .i64 v, g) ∧ (¬ v < 0 ↔ q t)) (x1 x2 x3 : D) {β : Type} {f : Out → Option β} {Q : β → Prop}
    (K : ∀ (c : Nat) b1 b2 b3, a ≤ c → c ≤ b → (c = a ∨ q (c - 1)) → (c = b ∨ ¬ q c) → Wp (f (.ext 4, [.int .i64 (c : Int), .int .i64 (c : Int), b1, b2, b3], g)) Q) : Wp ((loopW (F1066_L1 (.msl 2 o 0 N) (.int .i64 (m : Int)) cmp) [.int .i64 (a : Int), .int .i64 (b : Int), x1, x2, x3] g).bind f) Q := by
  refine Wp.loop (fun kk ds g' => g' = g ∧ ∃ y1 y2 y3, ∃ i j : Nat, ds = [.int .i64 (i : Int), .int .i64 (j : Int), y1, y2, y3] ∧ kk = j - i ∧ a ≤ i ∧ i ≤ j ∧ j ≤ b ∧ (i = a ∨ q (i - 1)) ∧ (j = b ∨ ¬ q j))
    (fun r => r.1 = .ext 4 ∧ r.2.2 = g ∧ ∃ b1 b2 b3, ∃ c : Nat, r.2.1 = [.int .i64 (c : Int), .int .i64 (c : Int), b1, b2, b3] ∧ a ≤ c ∧ c ≤ b ∧ (c = a ∨ q (c - 1)) ∧ (c = b ∨ ¬ q c)) (b - a) ⟨rfl, _, _, _, a, b, rfl, rfl, Nat.le_refl _, hmb, Nat.le_refl _, .inl rfl, .inl rfl⟩ ?_ ?_
  · rintro kk ds g' ⟨rfl, y1, y2, y3, i, j, rfl, hk, h1, h2, h3, h4, h5⟩
    simp only [F1066_L1, nth_zero, nth_succ, bs, Option.bind_assoc, dBin_lss]
    refine Wp.dif ?_ ?_
    · intro h0
      have h0 : i < j := by have : (i : Int) < (j : Int) := by simpa using h0
                            omega
      obtain ⟨u1, u2, u3, u4⟩ := @mid_ok i j (by omega) (by omega)
      obtain ⟨y, hy⟩ : ∃ y, L[(i + j) / 2]? = some y := ⟨_, List.getElem?_eq_getElem (by omega)⟩
      obtain ⟨v, hv, hvc⟩ := hc ((i + j) / 2) y (by omega) (by omega) hy
      have ia := @ix29n o N ((i + j) / 2) (by omega)
      have ib := @ix29n o N m hmN
      have la := fldL ho hy
      have lb := fldL ho hx
      have w1 : IntKind.wrap .i64 ((((i + j) / 2 : Nat) : Int) + 1) = (((i + j) / 2 + 1 : Nat) : Int) := by rw [wrap_i64 (by omega) (by omega)]; omega
      simp only [dBin_add, u1, cv3_134, u2, dBin_shr, show ¬ (1 : Int) < 0 by omega, if_false, u3, cv134_3, u4, ia, ib, la, lb, hv, bs, dBin_lss, dUn_not, Option.bind_assoc]
      by_cases hlt : v < 0
      · have := fun h => (hvc.2 h) hlt
        simp only [hlt, decide_true, Bool.not_true, dIf_bool, Bool.false_eq_true, if_false, bs, unblk_nrm, nth_zero, nth_succ]
        exact .some (.inl ⟨rfl, (i + j) / 2 - i, by omega, rfl, _, _, _, _, _, rfl, rfl, by omega, by omega, by omega, h4, .inr this⟩)
      · have := hvc.1 hlt
        simp only [hlt, decide_false, Bool.not_false, dIf_bool, if_true, w1, bs, unblk_nrm, nth_zero, nth_succ]
        exact .some (.inl ⟨rfl, j - ((i + j) / 2 + 1), by omega, rfl, _, _, _, _, _, rfl, rfl, by omega, by omega, by omega, .inr (by simpa using this), h5⟩)
    · intro h0
      have h0 : ¬ i < j := by have : ¬ (i : Int) < (j : Int) := by simpa using h0
                              omega
      obtain rfl : j = i := by omega
      exact .some (.inr ⟨by simp, rfl, rfl, _, _, _, j, rfl, h1, h3, h4, h5⟩)
  · rintro ⟨ex, ds, g'⟩ ⟨rfl, q2, b1, b2, b3, c, rfl, k1, k2, k3, k4⟩
    simp only at q2
    subst q2
    exact K c b1 b2 b3 k1 k2 k3 k4
theorem wL0 {g : Hp} {o N : Nat} {L : List (Str × Str)} (hN : N ≤ 1000000000) (hlen : L.length = N) (ho : g[o]? = some (.row ty109 2 (L.map fld))) (cmp : D) (p a b : Nat) (q : Nat → Prop) (hmb : a ≤ b) (hbp : b ≤ p + 1) (hbN : b ≤ N) (hpN : p < a + N)
    (hc : ∀ t y z, a ≤ t → t < b → L[t]? = some y → L[p - t]? = some z → ∃ v, callV R cmp [.agg (fld z), .agg (fld y)] g = some (.int .i64 v, g) ∧ (¬ v < 0 ↔ q t)) (x1 x2 x3 : D) {β : Type} {f : Out → Option β} {Q : β → Prop}
    (K : ∀ (c : Nat) b1 b2 b3, a ≤ c → c ≤ b → (c = a ∨ q (c - 1)) → (c = b ∨ ¬ q c) → Wp (f (.ext 8, [.int .i64 (c : Int), .int .i64 (c : Int), b1, b2, b3], g)) Q) : Wp ((loopW (F1066_L0 (.msl 2 o 0 N) cmp (.int .i64 (p : Int))) [.int .i64 (a : Int), .int .i64 (b : Int), x1, x2, x3] g).bind f) Q := by
  refine Wp.loop (fun kk ds g' => g' = g ∧ ∃ y1 y2 y3, ∃ i j : Nat, ds = [.int .i64 (i : Int), .int .i64 (j : Int), y1, y2, y3] ∧ kk = j - i ∧ a ≤ i ∧ i ≤ j ∧ j ≤ b ∧ (i = a ∨ q (i - 1)) ∧ (j = b ∨ ¬ q j))
    (fun r => r.1 = .ext 8 ∧ r.2.2 = g ∧ ∃ b1 b2 b3, ∃ c : Nat, r.2.1 = [.int .i64 (c : Int), .int .i64 (c : Int), b1, b2, b3] ∧ a ≤ c ∧ c ≤ b ∧ (c = a ∨ q (c - 1)) ∧ (c = b ∨ ¬ q c)) (b - a) ⟨rfl, _, _, _, a, b, rfl, rfl, Nat.le_refl _, hmb, Nat.le_refl _, .inl rfl, .inl rfl⟩ ?_ ?_
  · rintro kk ds g' ⟨rfl, y1, y2, y3, i, j, rfl, hk, h1, h2, h3, h4, h5⟩
    simp only [F1066_L0, nth_zero, nth_succ, bs, Option.bind_assoc, dBin_lss]
    refine Wp.dif ?_ ?_
    · intro h0
      have h0 : i < j := by have : (i : Int) < (j : Int) := by simpa using h0
                            omega
      obtain ⟨u1, u2, u3, u4⟩ := @mid_ok i j (by omega) (by omega)
      obtain ⟨y, hy⟩ : ∃ y, L[(i + j) / 2]? = some y := ⟨_, List.getElem?_eq_getElem (by omega)⟩
      obtain ⟨z, hz⟩ : ∃ z, L[p - (i + j) / 2]? = some z := ⟨_, List.getElem?_eq_getElem (by omega)⟩
      obtain ⟨v, hv, hvc⟩ := hc ((i + j) / 2) y z (by omega) (by omega) hy hz
      have ia := @ix29n o N ((i + j) / 2) (by omega)
      have ib := @ix29n o N (p - (i + j) / 2) (by omega)
      have la := fldL ho hy
      have lb := fldL ho hz
      have wp' : IntKind.wrap .i64 ((p : Int) - (((i + j) / 2 : Nat) : Int)) = ((p - (i + j) / 2 : Nat) : Int) := by rw [wrap_i64 (by omega) (by omega)]; omega
      have w1 : IntKind.wrap .i64 ((((i + j) / 2 : Nat) : Int) + 1) = (((i + j) / 2 + 1 : Nat) : Int) := by rw [wrap_i64 (by omega) (by omega)]; omega
      simp only [dBin_add, u1, cv3_134, u2, dBin_shr, show ¬ (1 : Int) < 0 by omega, if_false, u3, cv134_3, u4, dBin_sub, wp', ia, ib, la, lb, hv, bs, dBin_lss, dUn_not, Option.bind_assoc]
      by_cases hlt : v < 0
      · have := fun h => (hvc.2 h) hlt
        simp only [hlt, decide_true, Bool.not_true, dIf_bool, Bool.false_eq_true, if_false, bs, unblk_nrm, nth_zero, nth_succ]
        exact .some (.inl ⟨rfl, (i + j) / 2 - i, by omega, rfl, _, _, _, _, _, rfl, rfl, by omega, by omega, by omega, h4, .inr this⟩)
      · have := hvc.1 hlt
        simp only [hlt, decide_false, Bool.not_false, dIf_bool, if_true, w1, bs, unblk_nrm, nth_zero, nth_succ]
        exact .some (.inl ⟨rfl, j - ((i + j) / 2 + 1), by omega, rfl, _, _, _, _, _, rfl, rfl, by omega, by omega, by omega, .inr (by simpa using this), h5⟩)
    · intro h0
      have h0 : ¬ i < j := by have : ¬ (i : Int) < (j : Int) := by simpa using h0
                              omega
      obtain rfl : j = i := by omega
      exact .some (.inr ⟨by simp, rfl, rfl, _, _, _, j, rfl, h1, h3, h4, h5⟩)
  · rintro ⟨ex, ds, g'⟩ ⟨rfl, q2, b1, b2, b3, c, rfl, k1, k2, k3, k4⟩
    simp only at q2
    subst q2
    exact K c b1 b2 b3 k1 k2 k3 k4
def CmpF (cmp : D) (c : Str × Str → Str × Str → Int) : Prop := ∀ x y g, callV R cmp [.agg (fld x), .agg (fld y)] g = some (.int .i64 (c x y), g)
theorem w1066a {g : Hp} {o N : Nat} {P B Q : List (Str × Str)} {x : Str × Str} (hN : N ≤ 1000000000) (hlen : (P ++ x :: B ++ Q).length = N) (ho : g[o]? = some (.row ty109 2 ((P ++ x :: B ++ Q).map fld))) (cmp : D) (c : Str × Str → Str × Str → Int) (hcmp : CmpF cmp c) (a m b : Int) (ha : a = (P.length : Nat)) (hm : m = (P.length + 1 : Nat)) (hb : b = (P.length + 1 + B.length : Nat)) {β : Type} {f : D × Hp → Option β} {R1 : β → Prop}
    (K : ∀ g' B1 B2, B = B1 ++ B2 → (B1 = [] ∨ ∃ y r, B1 = r ++ [y] ∧ c y x < 0) → (B2 = [] ∨ ∃ y r, B2 = y :: r ∧ ¬ c y x < 0) → g'[o]? = some (.row ty109 2 ((P ++ (B1 ++ x :: B2) ++ Q).map fld)) → Same o g g' → Wp (f (mkRes [], g')) R1) : Wp ((R fn1066 [.msl 2 o 0 N, .int .i64 a, .int .i64 m, .int .i64 b, cmp] g).bind f) R1 := by
  subst ha hm hb
  have hl := hlen
  simp only [List.length_append, List.length_cons] at hl
  have w1 : IntKind.wrap .i64 (((P.length + 1 : Nat) : Int) - (P.length : Int)) = 1 := by rw [wrap_i64 (by omega) (by omega)]; omega
  have gx : (P ++ x :: B ++ Q)[P.length]? = some x := by
    rw [show P ++ x :: B ++ Q = P ++ x :: (B ++ Q) by simp]
    exact get_midn _ _ x _ rfl
  have gB : ∀ t, (P ++ x :: B ++ Q)[P.length + 1 + t]? = (B ++ Q)[t]? := fun t => by
    rw [show P ++ x :: B ++ Q = (P ++ [x]) ++ (B ++ Q) by simp, List.getElem?_append_right (by simp)]
    simp [-bind_some]
  rw [e1066]
  simp only [F1066, bs, Option.bind_assoc, dBin_sub, w1, dBin_eql, decide_true, dIf_bool, if_true]
  refine wL3 hN hlen ho cmp P.length (P.length + 1) (P.length + 1 + B.length) (fun t => ∃ y, (P ++ x :: B ++ Q)[t]? = some y ∧ c y x < 0) (by omega) (by omega) (by omega) x gx (fun t y _ _ hy => ⟨c y x, hcmp y x g, fun h => ⟨y, hy, h⟩, fun ⟨y', h1, h2⟩ => by rw [hy] at h1; injection h1 with h1; rw [h1]; exact h2⟩) _ _ _ fun k b1 b2 b3 k1 k2 k3 k4 => ?_
  obtain ⟨t, rfl⟩ : ∃ t, k = P.length + 1 + t := ⟨k - (P.length + 1), by omega⟩
  have htB : t ≤ B.length := by omega
  simp only [unblk_self, toEnd_nrm, bs, nth_zero, nth_succ, Option.bind_assoc]
  have eL : P ++ x :: B ++ Q = P ++ x :: B.take t ++ (B.drop t ++ Q) := by
    simp only [List.append_assoc, List.cons_append]
    rw [← List.append_assoc (B.take t), List.take_append_drop]
  have htl : (B.take t).length = t := by simp; omega
  refine wL4 (P := P) (A := B.take t) (Q := B.drop t ++ Q) (x := x) hN (by rw [← eL]; exact hlen) (by rw [← eL]; exact ho) _ (by rw [htl]; show D.int _ _ = _; congr 1; omega) _ rfl _ fun g1 c1 c2 p1 s1' => ?_
  simp only [unblk_self, toEnd_nrm, bs]
  refine K g1 (B.take t) (B.drop t) (List.take_append_drop _ _).symm ?_ ?_ (by rw [p1]; simp [-bind_some]) s1'
  · rcases Nat.eq_zero_or_pos t with rfl | hpos
    · exact .inl (by simp)
    · right
      rcases k3 with k3 | ⟨y, hy, hlt⟩
      · omega
      · rw [show P.length + 1 + t - 1 = P.length + 1 + (t - 1) by omega, gB, List.getElem?_append_left (by omega)] at hy
        refine ⟨y, B.take (t - 1), ?_, hlt⟩
        conv => lhs; rw [show t = (t - 1) + 1 by omega, List.take_add_one, hy]
        simp [-bind_some]
  · rcases Nat.lt_or_ge t B.length with hlt | hge
    · right
      obtain ⟨y, hy⟩ : ∃ y, B[t]? = some y := ⟨_, List.getElem?_eq_getElem hlt⟩
      rcases k4 with k4 | k4
      · omega
      · refine ⟨y, B.drop (t + 1), ?_, fun h => k4 ⟨y, by rw [gB, List.getElem?_append_left hlt]; exact hy, h⟩⟩
        obtain ⟨hn, hh⟩ := List.getElem?_eq_some_iff.1 hy
        rw [List.drop_eq_getElem_cons hn, hh]
    · exact .inl (List.drop_eq_nil_of_le hge)
theorem w1066b {g : Hp} {o N : Nat} {P A Q : List (Str × Str)} {x : Str × Str} (hN : N ≤ 1000000000) (hlen : (P ++ A ++ x :: Q).length = N) (hA1 : A.length ≠ 1) (ho : g[o]? = some (.row ty109 2 ((P ++ A ++ x :: Q).map fld))) (cmp : D) (c : Str × Str → Str × Str → Int) (hcmp : CmpF cmp c) (a m b : Int) (ha : a = (P.length : Nat)) (hm : m = (P.length + A.length : Nat)) (hb : b = (P.length + A.length + 1 : Nat)) {β : Type} {f : D × Hp → Option β} {R1 : β → Prop}
    (K : ∀ g' A1 A2, A = A1 ++ A2 → (A1 = [] ∨ ∃ y r, A1 = r ++ [y] ∧ ¬ c x y < 0) → (A2 = [] ∨ ∃ y r, A2 = y :: r ∧ c x y < 0) → g'[o]? = some (.row ty109 2 ((P ++ (A1 ++ x :: A2) ++ Q).map fld)) → Same o g g' → Wp (f (mkRes [], g')) R1) : Wp ((R fn1066 [.msl 2 o 0 N, .int .i64 a, .int .i64 m, .int .i64 b, cmp] g).bind f) R1 := by
  subst ha hm hb
  have hl := hlen
  simp only [List.length_append, List.length_cons] at hl
  have w1 : IntKind.wrap .i64 (((P.length + A.length : Nat) : Int) - (P.length : Int)) = A.length := by rw [wrap_i64 (by omega) (by omega)]; omega
  have w2 : IntKind.wrap .i64 (((P.length + A.length + 1 : Nat) : Int) - ((P.length + A.length : Nat) : Int)) = 1 := by rw [wrap_i64 (by omega) (by omega)]; omega
  have hd1 : decide ((A.length : Int) = 1) = false := decide_eq_false (by omega)
  have gx : (P ++ A ++ x :: Q)[P.length + A.length]? = some x := get_midn _ _ x _ (by simp)
  have gA : ∀ t, t < A.length → (P ++ A ++ x :: Q)[P.length + t]? = A[t]? := fun t ht => by
    rw [List.append_assoc, List.getElem?_append_right (by simp), List.getElem?_append_left (by omega)]
    simp [-bind_some]
  rw [e1066]
  simp only [F1066, F1066_R0, bs, Option.bind_assoc, dBin_sub, w1, w2, dBin_eql, hd1, decide_true, dIf_bool, Bool.false_eq_true, if_false, if_true]
  refine wL1 hN hlen ho cmp (P.length + A.length) P.length (P.length + A.length) (fun t => ∃ y, (P ++ A ++ x :: Q)[t]? = some y ∧ ¬ c x y < 0) (by omega) (by omega) (by omega) x gx (fun t y _ _ hy => ⟨c x y, hcmp x y g, fun h => ⟨y, hy, h⟩, fun ⟨y', h1, h2⟩ => by rw [hy] at h1; injection h1 with h1; rw [h1]; exact h2⟩) _ _ _ fun k b1 b2 b3 k1 k2 k3 k4 => ?_
  obtain ⟨t, rfl⟩ : ∃ t, k = P.length + t := ⟨k - P.length, by omega⟩
  have htA : t ≤ A.length := by omega
  simp only [unblk_self, toEnd_nrm, bs, nth_zero, nth_succ, Option.bind_assoc]
  have htl : (A.take t).length = t := by simp; omega
  have eL : P ++ A ++ x :: Q = (P ++ A.take t) ++ A.drop t ++ x :: Q := by
    rw [List.append_assoc P (A.take t), List.take_append_drop]
  have hdl : (A.drop t).length = A.length - t := List.length_drop
  refine wL2 (P := P ++ A.take t) (A := A.drop t) (Q := Q) (x := x) hN (by rw [← eL]; exact hlen) (by rw [← eL]; exact ho) _ (by rw [List.length_append, htl]; rfl) _ (by rw [List.length_append, htl, hdl]; congr 1; omega) _ fun g1 c1 c2 p1 s1' => ?_
  simp only [unblk_self, toEnd_nrm, bs]
  refine K g1 (A.take t) (A.drop t) (List.take_append_drop _ _).symm ?_ ?_ (by rw [p1]; simp [-bind_some]) s1'
  · rcases Nat.eq_zero_or_pos t with rfl | hpos
    · exact .inl (by simp)
    · right
      rcases k3 with k3 | ⟨y, hy, hlt⟩
      · omega
      · rw [show P.length + t - 1 = P.length + (t - 1) by omega, gA _ (by omega)] at hy
        refine ⟨y, A.take (t - 1), ?_, hlt⟩
        conv => lhs; rw [show t = (t - 1) + 1 by omega, List.take_add_one, hy]
        simp [-bind_some]
  · rcases Nat.lt_or_ge t A.length with hlt | hge
    · right
      obtain ⟨y, hy⟩ : ∃ y, A[t]? = some y := ⟨_, List.getElem?_eq_getElem hlt⟩
      rcases k4 with k4 | k4
      · omega
      · refine ⟨y, A.drop (t + 1), ?_, Classical.byContradiction fun h => k4 ⟨y, by rw [gA _ hlt]; exact hy, h⟩⟩
        obtain ⟨hn, hh⟩ := List.getElem?_eq_some_iff.1 hy
        rw [List.drop_eq_getElem_cons hn, hh]
    · exact .inl (List.drop_eq_nil_of_le hge)
theorem getm {α : Type} (P A B : List α) (t : Nat) (h0 : P.length ≤ t) (h1 : t < P.length + A.length) : (P ++ A ++ B)[t]? = A[t - P.length]? := by
  rw [List.append_assoc, List.getElem?_append_right h0, List.getElem?_append_left (by omega)]
theorem last_of {α : Type} {A : List α} {t : Nat} {y : α} (ht : 0 < t) (hy : A[t - 1]? = some y) : ∃ r, A.take t = r ++ [y] := by
  refine ⟨A.take (t - 1), ?_⟩
  conv => lhs; rw [show t = (t - 1) + 1 by omega, List.take_add_one, hy]
  simp [-bind_some]
theorem first_of {α : Type} {A : List α} {t : Nat} {y : α} (hy : A[t]? = some y) : ∃ r, A.drop t = y :: r := by
  obtain ⟨hn, hh⟩ := List.getElem?_eq_some_iff.1 hy
  exact ⟨A.drop (t + 1), by rw [List.drop_eq_getElem_cons hn, hh]⟩
theorem and_lss (b1 : Bool) (a c : Int) (t : Nat) {β : Type} (f : D → Option β) : ((gd (.bool b1) true (some (.int .i64 a))).bind fun t2 => (gd (.bool b1) true (some (.int .i64 c))).bind fun t3 => (gd (.bool b1) true (dBin tab .lss t t2 t3)).bind fun t4 => (dPick (.bool b1) t4 (.bool false)).bind f) = f (.bool (b1 && decide (a < c))) := by
  cases b1
  · simp only [gd_bool, reduceCtorEq, if_false, bs, dPick_bool, Bool.false_eq_true, Bool.false_and]
  · simp only [gd_bool, if_true, bs, dPick_bool, dBin_lss, Bool.true_and]
def MergeOK (c : Str × Str → Str × Str → Int) (S Pre : Str × Str → Str × Str → Prop) (cmp : D) (o N n : Nat) : Prop :=
  ∀ (g : Hp) (P A B Q : List (Str × Str)) (a m b : Int), A.length + B.length ≤ n → (P ++ A ++ B ++ Q).length = N → 0 < A.length → 0 < B.length → A.Pairwise S → B.Pairwise S → (∀ x ∈ A, ∀ y ∈ B, Pre x y) →
    g[o]? = some (.row ty109 2 ((P ++ A ++ B ++ Q).map fld)) → a = (P.length : Nat) → m = (P.length + A.length : Nat) → b = (P.length + A.length + B.length : Nat) →
    Wp (R fn1066 [.msl 2 o 0 N, .int .i64 a, .int .i64 m, .int .i64 b, cmp] g) fun p => ∃ C : List (Str × Str), C.Perm (A ++ B) ∧ C.Pairwise S ∧ p.2[o]? = some (.row ty109 2 ((P ++ C ++ Q).map fld)) ∧ Same o g p.2
theorem cut_wp {g : Hp} {o N : Nat} {P A B Q : List (Str × Str)} (hN : N ≤ 1000000000) (hlen : (P ++ A ++ B ++ Q).length = N) (hA : 0 < A.length) (hB : 0 < B.length) (ho : g[o]? = some (.row ty109 2 ((P ++ A ++ B ++ Q).map fld))) (cmp : D) (c : Str × Str → Str × Str → Int) (hcmp : CmpF cmp c)
    (mid s0 r0 : Nat) (hmid : mid = (P.length + (P.length + A.length + B.length)) / 2) (hs : (P.length + A.length > mid ∧ s0 + B.length = mid ∧ r0 = mid) ∨ (P.length + A.length ≤ mid ∧ s0 = P.length ∧ r0 = P.length + A.length))
    (p : Int) (hp : p = (mid + (P.length + A.length) - 1 : Nat)) (x1 x2 x3 : D) {β : Type} {f : Out → Option β} {R1 : β → Prop}
    (K : ∀ (k : Nat) b1 b2 b3 A1 A2 B1 B2, A = A1 ++ A2 → B = B1 ++ B2 → k = P.length + A1.length → mid = P.length + A1.length + B1.length →
      (A1 = [] ∨ B2 = [] ∨ ∃ x y r s, A1 = r ++ [x] ∧ B2 = y :: s ∧ ¬ c y x < 0) → (A2 = [] ∨ B1 = [] ∨ ∃ x y r s, B1 = r ++ [y] ∧ A2 = x :: s ∧ c y x < 0) →
      Wp (f (.ext 8, [.int .i64 (k : Int), .int .i64 (k : Int), b1, b2, b3], g)) R1) : Wp ((loopW (F1066_L0 (.msl 2 o 0 N) cmp (.int .i64 p)) [.int .i64 (s0 : Int), .int .i64 (r0 : Int), x1, x2, x3] g).bind f) R1 := by
  subst hp
  have hl := hlen
  simp only [List.length_append] at hl
  have gA : ∀ t, P.length ≤ t → t < P.length + A.length → (P ++ A ++ B ++ Q)[t]? = A[t - P.length]? := fun t h0 h1 => by
    rw [List.append_assoc (P ++ A)]; exact getm P A _ t h0 h1
  have gB : ∀ t, P.length + A.length ≤ t → t < P.length + A.length + B.length → (P ++ A ++ B ++ Q)[t]? = B[t - (P.length + A.length)]? := fun t h0 h1 => by
    have := getm (P ++ A) B Q t (by simpa using h0) (by simpa using h1)
    simpa using this
  obtain ⟨q, hq⟩ : ∃ q : Nat → Prop, ∀ t, q t ↔ ∃ y z, (P ++ A ++ B ++ Q)[t]? = some y ∧ (P ++ A ++ B ++ Q)[mid + (P.length + A.length) - 1 - t]? = some z ∧ ¬ c z y < 0 := ⟨_, fun t => Iff.rfl⟩
  refine wL0 hN hlen ho cmp (mid + (P.length + A.length) - 1) s0 r0 q (by omega) (by omega) (by omega) (by omega)
    (fun t y z _ _ hy hz => ⟨c z y, hcmp z y g, fun h => (hq t).2 ⟨y, z, hy, hz, h⟩, fun hh => by
      obtain ⟨y', z', h1, h2, h3⟩ := (hq t).1 hh
      rw [hy] at h1; rw [hz] at h2; injection h1 with h1; injection h2 with h2; rw [h1, h2]; exact h3⟩) _ _ _ fun k b1 b2 b3 k1 k2 k3 k4 => ?_
  have hkA : k - P.length ≤ A.length := by omega
  have hkB : mid - k ≤ B.length := by omega
  have la : (A.take (k - P.length)).length = k - P.length := by simp; omega
  have lb : (B.take (mid - k)).length = mid - k := by simp; omega
  refine K k b1 b2 b3 (A.take (k - P.length)) (A.drop (k - P.length)) (B.take (mid - k)) (B.drop (mid - k)) (List.take_append_drop _ _).symm (List.take_append_drop _ _).symm (by omega) (by omega) ?_ ?_
  · rcases k3 with k3 | k3
    · rcases hs with ⟨h1, h2, h3⟩ | ⟨h1, h2, h3⟩
      · right; left
        exact List.drop_eq_nil_of_le (by omega)
      · left
        apply List.eq_nil_of_length_eq_zero
        omega
    · by_cases hk0 : k = P.length
      · left; apply List.eq_nil_of_length_eq_zero; omega
      · right
        by_cases hk1 : B.length ≤ mid - k
        · left; exact List.drop_eq_nil_of_le hk1
        · right
          obtain ⟨y, z, hy, hz, hlt⟩ := (hq _).1 k3
          rw [gA _ (by omega) (by omega)] at hy
          rw [gB _ (by omega) (by omega)] at hz
          obtain ⟨r, hr⟩ := last_of (A := A) (t := k - P.length) (y := y) (by omega) (by rw [← hy]; congr 1; omega)
          obtain ⟨s, hs'⟩ := first_of (A := B) (t := mid - k) (y := z) (by rw [← hz]; congr 1; omega)
          exact ⟨y, z, r, s, hr, hs', hlt⟩
  · by_cases hk0 : k = P.length + A.length
    · left; exact List.drop_eq_nil_of_le (by omega)
    · right
      by_cases hk1 : mid - k = 0
      · left; rw [hk1]; rfl
      · right
        rcases k4 with k4 | k4
        · omega
        · obtain ⟨y, hy⟩ : ∃ y, A[k - P.length]? = some y := ⟨_, List.getElem?_eq_getElem (by omega)⟩
          obtain ⟨z, hz⟩ : ∃ z, B[mid - k - 1]? = some z := ⟨_, List.getElem?_eq_getElem (by omega)⟩
          obtain ⟨r, hr⟩ := last_of (A := B) (t := mid - k) (y := z) (by omega) hz
          obtain ⟨s, hs'⟩ := first_of (A := A) (t := k - P.length) (y := y) hy
          refine ⟨y, z, r, s, hr, hs', Classical.byContradiction fun h => k4 ((hq _).2 ⟨y, z, ?_, ?_, h⟩)⟩
          · rw [gA _ (by omega) (by omega)]; exact hy
          · rw [gB _ (by omega) (by omega), ← hz]; congr 1; omega
theorem w1066r {c : Str × Str → Str × Str → Int} {S Pre : Str × Str → Str × Str → Prop} (od : SOrd c S Pre) {cmp : D} (hcmp : CmpF cmp c) {o N n : Nat} (hN : N ≤ 1000000000) (ih : MergeOK c S Pre cmp o N n)
    {g : Hp} {P A B Q : List (Str × Str)} {a m b : Int} (hn : A.length + B.length ≤ n + 1) (hlen : (P ++ A ++ B ++ Q).length = N) (hA : 0 < A.length) (hB : 0 < B.length) (sA : A.Pairwise S) (sB : B.Pairwise S) (hp : ∀ x ∈ A, ∀ y ∈ B, Pre x y)
    (ho : g[o]? = some (.row ty109 2 ((P ++ A ++ B ++ Q).map fld))) (ha : a = (P.length : Nat)) (hm : m = (P.length + A.length : Nat)) (hb : b = (P.length + A.length + B.length : Nat)) :
    Wp (F1066_R1 (.msl 2 o 0 N) (.int .i64 a) (.int .i64 m) (.int .i64 b) cmp g) fun p => ∃ C : List (Str × Str), C.Perm (A ++ B) ∧ C.Pairwise S ∧ p.2[o]? = some (.row ty109 2 ((P ++ C ++ Q).map fld)) ∧ Same o g p.2 := by
  have hl := hlen
  simp only [List.length_append] at hl
  obtain ⟨mid, hmid⟩ : ∃ mid : Nat, mid = (P.length + (P.length + A.length + B.length)) / 2 := ⟨_, rfl⟩
  obtain ⟨mm, hmm⟩ : ∃ mm : Nat, mm = P.length + A.length := ⟨_, rfl⟩
  obtain ⟨bb, hbb⟩ : ∃ bb : Nat, bb = P.length + A.length + B.length := ⟨_, rfl⟩
  rw [← hmm] at hm
  rw [← hbb] at hb
  subst ha hm hb
  obtain ⟨u1, u2, u3, u4⟩ := @mid_ok P.length bb (by omega) (by omega)
  rw [← show mid = (P.length + bb) / 2 by rw [hmid, hbb]] at u3 u4
  have w1 : IntKind.wrap .i64 ((mid : Int) + (mm : Int)) = ((mid + mm : Nat) : Int) := by rw [wrap_i64 (by omega) (by omega)]; omega
  have w2 : IntKind.wrap .i64 (((mid + mm : Nat) : Int) - 1) = ((mid + (P.length + A.length) - 1 : Nat) : Int) := by rw [wrap_i64 (by omega) (by omega)]; omega
  simp only [F1066_R1, bs, Option.bind_assoc, dBin_add, u1, cv3_134, u2, dBin_shr, show ¬ (1 : Int) < 0 by omega, if_false, u3, cv134_3, u4, w1, dBin_gtr]
  refine Wp.join (P := fun r => r.1 = .nrm ∧ r.2.2 = g ∧ ∃ s0 r0 : Nat, r.2.1 = [.int .i64 (s0 : Int), .int .i64 (r0 : Int)] ∧ ((P.length + A.length > mid ∧ s0 + B.length = mid ∧ r0 = mid) ∨ (P.length + A.length ≤ mid ∧ s0 = P.length ∧ r0 = P.length + A.length))) ?_ ?_ ?_
  · intro h0
    have h0 : mid < mm := by have : (mm : Int) > (mid : Int) := by simpa using h0
                             omega
    have w3 : IntKind.wrap .i64 (((mid + mm : Nat) : Int) - (bb : Int)) = ((mid - B.length : Nat) : Int) := by rw [wrap_i64 (by omega) (by omega)]; omega
    simp only [dBin_sub, w3, bs]
    exact .some ⟨rfl, rfl, mid - B.length, mid, rfl, .inl ⟨by omega, by omega, rfl⟩⟩
  · intro h0
    have h0 : ¬ mid < mm := by have : ¬ (mm : Int) > (mid : Int) := by simpa using h0
                               omega
    exact .some ⟨rfl, rfl, P.length, mm, rfl, .inr ⟨by omega, rfl, hmm⟩⟩
  rintro ⟨ex, ds, g'⟩ ⟨rfl, q2, s0, r0, rfl, hs⟩
  simp only at q2
  subst q2
  simp only [toEnd_nrm, dBin_sub, w2, bs, nth_zero, nth_succ, Option.bind_assoc]
  refine cut_wp hN hlen hA hB ho cmp c hcmp mid s0 r0 hmid hs _ rfl _ _ _ fun k b1 b2 b3 A1 A2 B1 B2 eA eB ek em h1 h2 => ?_
  subst eA eB
  simp only [List.length_append] at *
  have w4 : IntKind.wrap .i64 (((mid + mm : Nat) : Int) - (k : Int)) = ((mm + B1.length : Nat) : Int) := by rw [wrap_i64 (by omega) (by omega)]; omega
  simp only [unblk_self, toEnd_nrm, bs, nth_zero, nth_succ, Option.bind_assoc, dBin_sub, w4, dBin_lss, and_lss]
  rw [List.pairwise_append] at sA sB
  -- the rotation
  refine Wp.bind (P := fun r => r.1 = .nrm ∧ r.2.2[o]? = some (.row ty109 2 ((P ++ A1 ++ B1 ++ A2 ++ B2 ++ Q).map fld)) ∧ Same o g' r.2.2) ?_ ?_
  · by_cases c1 : 0 < A2.length
    · have d1 : decide ((k : Int) < (mm : Int)) = true := decide_eq_true (by omega)
      by_cases c2 : 0 < B1.length
      · have d2 : decide ((mm : Int) < ((mm + B1.length : Nat) : Int)) = true := decide_eq_true (by omega)
        simp only [d1, d2, Bool.and_self, dIf_bool, if_true]
        refine w1068 (P := P ++ A1) (U := A2) (V := B1) (Q := B2 ++ Q) hN (by simp only [List.length_append]; omega) c1 c2 (by rw [ho]; simp [-bind_some]) cmp _ _ _ (by simp only [List.length_append]; omega) (by simp only [List.length_append]; omega) (by simp only [List.length_append]; omega) fun g1 p1 s1 => ?_
        exact .some ⟨rfl, by simp only [p1]; simp [-bind_some], s1⟩
      · have e2 : B1 = [] := List.eq_nil_of_length_eq_zero (by omega)
        subst e2
        have d2 : decide ((mm : Int) < ((mm + ([] : List (Str × Str)).length : Nat) : Int)) = false := decide_eq_false (by simp)
        simp only [d1, d2, Bool.and_false, dIf_bool, Bool.false_eq_true, if_false]
        exact .some ⟨rfl, by simp only [ho]; simp [-bind_some], .refl _ _⟩
    · have e2 : A2 = [] := List.eq_nil_of_length_eq_zero (by omega)
      subst e2
      have d1 : decide ((k : Int) < (mm : Int)) = false := decide_eq_false (by simp only [List.length_nil] at *; omega)
      simp only [d1, Bool.false_and, dIf_bool, Bool.false_eq_true, if_false]
      exact .some ⟨rfl, by simp only [ho]; simp [-bind_some], .refl _ _⟩
  rintro ⟨ex, ds, g1⟩ ⟨rfl, p1, s1⟩
  simp only [toEnd_nrm, bs, Option.bind_assoc, dBin_lss, and_lss]
  -- the first half
  refine Wp.bind (P := fun r => r.1 = .nrm ∧ ∃ C1 : List (Str × Str), C1.Perm (A1 ++ B1) ∧ C1.Pairwise S ∧ r.2.2[o]? = some (.row ty109 2 ((P ++ C1 ++ (A2 ++ B2 ++ Q)).map fld)) ∧ Same o g' r.2.2) ?_ ?_
  · by_cases c1 : 0 < A1.length
    · have d1 : decide (((P.length : Nat) : Int) < (k : Int)) = true := decide_eq_true (by omega)
      by_cases c2 : 0 < B1.length
      · have d2 : decide ((k : Int) < (mid : Int)) = true := decide_eq_true (by omega)
        simp only [d1, d2, Bool.and_self, dIf_bool, if_true]
        refine Wp.bind (ih g1 P A1 B1 (A2 ++ B2 ++ Q) _ _ _ (by omega) (by simp only [List.length_append]; omega) c1 c2 sA.1 sB.1 (fun x hx y hy => hp x (by simp [-bind_some, hx]) y (by simp [-bind_some, hy])) (by rw [p1]; simp [-bind_some]) rfl (by omega) (by omega)) ?_
        rintro ⟨d, g2⟩ ⟨C, q1, q2, q3, q4⟩
        exact .some ⟨rfl, C, q1, q2, q3, s1.trans q4⟩
      · have e2 : B1 = [] := List.eq_nil_of_length_eq_zero (by omega)
        subst e2
        have d2 : decide ((k : Int) < (mid : Int)) = false := decide_eq_false (by simp only [List.length_nil] at *; omega)
        simp only [d1, d2, Bool.and_false, dIf_bool, Bool.false_eq_true, if_false]
        exact .some ⟨rfl, A1, by simp, sA.1, by simp only [p1]; simp [-bind_some], s1⟩
    · have e2 : A1 = [] := List.eq_nil_of_length_eq_zero (by omega)
      subst e2
      have d1 : decide (((P.length : Nat) : Int) < (k : Int)) = false := decide_eq_false (by simp only [List.length_nil] at *; omega)
      simp only [d1, Bool.false_and, dIf_bool, Bool.false_eq_true, if_false]
      exact .some ⟨rfl, B1, by simp, sB.1, by simp only [p1]; simp [-bind_some], s1⟩
  rintro ⟨ex, ds, g2⟩ ⟨rfl, C1, r1, r2, p2, s2⟩
  have lC1 : C1.length = A1.length + B1.length := by rw [r1.length_eq]; simp [-bind_some]
  simp only [toEnd_nrm, bs, Option.bind_assoc, dBin_lss, and_lss]
  -- the second half
  refine Wp.bind (P := fun r => r.1 = .nrm ∧ ∃ C2 : List (Str × Str), C2.Perm (A2 ++ B2) ∧ C2.Pairwise S ∧ r.2.2[o]? = some (.row ty109 2 ((P ++ (C1 ++ C2) ++ Q).map fld)) ∧ Same o g' r.2.2) ?_ ?_
  · by_cases c1 : 0 < A2.length
    · have d1 : decide ((mid : Int) < ((mm + B1.length : Nat) : Int)) = true := decide_eq_true (by omega)
      by_cases c2 : 0 < B2.length
      · have d2 : decide (((mm + B1.length : Nat) : Int) < (bb : Int)) = true := decide_eq_true (by omega)
        simp only [d1, d2, Bool.and_self, dIf_bool, if_true]
        refine Wp.bind (ih g2 (P ++ C1) A2 B2 Q _ _ _ (by omega) (by simp only [List.length_append]; omega) c1 c2 sA.2.1 sB.2.1 (fun x hx y hy => hp x (by simp [-bind_some, hx]) y (by simp [-bind_some, hy])) (by rw [p2]; simp [-bind_some]) (by simp only [List.length_append]; omega) (by simp only [List.length_append]; omega) (by simp only [List.length_append]; omega)) ?_
        rintro ⟨d, g3⟩ ⟨C, q1, q2, q3, q4⟩
        exact .some ⟨rfl, C, q1, q2, by rw [q3]; simp [-bind_some], s2.trans q4⟩
      · have e2 : B2 = [] := List.eq_nil_of_length_eq_zero (by omega)
        subst e2
        have d2 : decide (((mm + B1.length : Nat) : Int) < (bb : Int)) = false := decide_eq_false (by simp only [List.length_nil] at *; omega)
        simp only [d1, d2, Bool.and_false, dIf_bool, Bool.false_eq_true, if_false]
        exact .some ⟨rfl, A2, by simp, sA.2.1, by simp only [p2]; simp [-bind_some], s2⟩
    · have e2 : A2 = [] := List.eq_nil_of_length_eq_zero (by omega)
      subst e2
      have d1 : decide ((mid : Int) < ((mm + B1.length : Nat) : Int)) = false := decide_eq_false (by simp only [List.length_nil] at *; omega)
      simp only [d1, Bool.false_and, dIf_bool, Bool.false_eq_true, if_false]
      exact .some ⟨rfl, B2, by simp, sB.2.1, by simp only [p2]; simp [-bind_some], s2⟩
  rintro ⟨ex, ds, g3⟩ ⟨rfl, C2, r3, r4, p3, s3⟩
  simp only [exEnd_nrm, bs]
  obtain ⟨v1, v2⟩ := halves od (List.pairwise_append.2 sA) (List.pairwise_append.2 sB) hp h1 h2 r1 r2 r3 r4
  exact .some ⟨C1 ++ C2, v1, v2, p3, s3⟩
theorem w1066 {c : Str × Str → Str × Str → Int} {S Pre : Str × Str → Str × Str → Prop} (od : SOrd c S Pre) {cmp : D} (hcmp : CmpF cmp c) {o N : Nat} (hN : N ≤ 1000000000) : ∀ n, MergeOK c S Pre cmp o N n
  | 0 => fun g P A B Q a m b h0 _ h1 => by omega
  | n + 1 => fun g P A B Q a m b h0 hlen hA hB sA sB hp ho ha hm hb => by
    have ih := w1066 od hcmp (o := o) hN n
    have hl := hlen
    simp only [List.length_append] at hl
    by_cases c1 : A.length = 1
    · obtain ⟨x, rfl⟩ := List.length_eq_one_iff.1 c1
      have := w1066a (g := g) (o := o) (N := N) (P := P) (B := B) (Q := Q) (x := x) hN (by simpa using hlen) (by simpa using ho) cmp c hcmp a m b ha (by rw [hm]; rfl) (by rw [hb]; rfl) (f := some) (R1 := fun p => ∃ C : List (Str × Str), C.Perm ([x] ++ B) ∧ C.Pairwise S ∧ p.2[o]? = some (.row ty109 2 ((P ++ C ++ Q).map fld)) ∧ Same o g p.2)
        (fun g' B1 B2 e h1 h2 p1 s1 => .some ⟨B1 ++ x :: B2, by rw [e]; exact List.perm_middle, by
          subst e
          rw [List.pairwise_append] at sB ⊢
          refine ⟨sB.1, List.pairwise_cons.2 ⟨?_, sB.2.1⟩, ?_⟩
          · rcases h2 with rfl | ⟨y, r, rfl, hy⟩
            · intro z hz; cases hz
            · have hxy := od.ge x y (hp x (by simp) y (by simp)) hy
              intro z hz
              rcases List.mem_cons.1 hz with rfl | hz
              · exact hxy
              · exact od.tr _ _ _ hxy ((List.pairwise_cons.1 sB.2.1).1 z hz)
          · have hx1 : ∀ u ∈ B1, S u x := by
              rcases h1 with rfl | ⟨y, r, rfl, hy⟩
              · intro z hz; cases hz
              · have hyx := od.lt x y (hp x (by simp) y (by simp)) hy
                intro z hz
                rcases List.mem_append.1 hz with hz | hz
                · exact od.tr _ _ _ ((List.pairwise_append.1 sB.1).2.2 z hz y (by simp)) hyx
                · simp at hz; subst hz; exact hyx
            intro u hu v hv
            rcases List.mem_cons.1 hv with rfl | hv
            · exact hx1 u hu
            · exact sB.2.2 u hu v hv, by rw [p1], s1⟩)
      rwa [show ∀ x : Option (D × Hp), x.bind some = x from fun x => by cases x <;> rfl] at this
    · by_cases c2 : B.length = 1
      · obtain ⟨x, rfl⟩ := List.length_eq_one_iff.1 c2
        have := w1066b (g := g) (o := o) (N := N) (P := P) (A := A) (Q := Q) (x := x) hN (by simpa using hlen) c1 (by simpa using ho) cmp c hcmp a m b ha (by rw [hm]) (by rw [hb]; rfl) (f := some) (R1 := fun p => ∃ C : List (Str × Str), C.Perm (A ++ [x]) ∧ C.Pairwise S ∧ p.2[o]? = some (.row ty109 2 ((P ++ C ++ Q).map fld)) ∧ Same o g p.2)
          (fun g' A1 A2 e h1 h2 p1 s1 => .some ⟨A1 ++ x :: A2, by rw [e]; exact List.perm_middle.trans (by simpa using (List.perm_append_comm (l₁ := [x]) (l₂ := A1 ++ A2))), pw_ins od (by rw [← e]; exact sA) (fun y hy => hp y (by rw [e]; exact hy) x (by simp)) h2 h1, by rw [p1], s1⟩)
        rwa [show ∀ x : Option (D × Hp), x.bind some = x from fun x => by cases x <;> rfl] at this
      · have r := w1066r od hcmp hN ih h0 hlen hA hB sA sB hp ho ha hm hb
        rw [e1066]
        have v1 : IntKind.wrap .i64 (m - a) = (A.length : Int) := by rw [hm, ha, wrap_i64 (by omega) (by omega)]; omega
        have v2 : IntKind.wrap .i64 (b - m) = (B.length : Int) := by rw [hm, hb, wrap_i64 (by omega) (by omega)]; omega
        have d1 : decide ((A.length : Int) = 1) = false := decide_eq_false (by omega)
        have d2 : decide ((B.length : Int) = 1) = false := decide_eq_false (by omega)
        simp only [F1066, F1066_R0, bs, dBin_sub, v1, v2, dBin_eql, d1, d2, dIf_bool, Bool.false_eq_true, if_false]
        exact r
theorem Blk.len {α : Type} {S Pre : α → α → Prop} {k : Nat} {l : List α} (h : Blk S Pre k l) (hl : l.length < k) : l.Pairwise S := h.all (by omega)
theorem pre_split {α : Type} {Pre : α → α → Prop} {A B : List α} (h : (A ++ B).Pairwise Pre) : A.Pairwise Pre ∧ B.Pairwise Pre ∧ ∀ x ∈ A, ∀ y ∈ B, Pre x y := List.pairwise_append.1 h
theorem ins_wp {c : Str × Str → Str × Str → Int} {S Pre : Str × Str → Str × Str → Prop} (od : SOrd c S Pre) {cmp : D} (hcmp : CmpF cmp c) {o N : Nat} (hN : N ≤ 1000000000) {g : Hp} {P A Q : List (Str × Str)} (hlen : (P ++ A ++ Q).length = N) (hA : A.Pairwise Pre)
    (ho : g[o]? = some (.row ty109 2 ((P ++ A ++ Q).map fld))) (a b : Int) (ha : a = P.length) (hb : b = (P.length + A.length : Nat)) :
    Wp (R fn1065 [.msl 2 o 0 N, .int .i64 a, .int .i64 b, cmp] g) fun p => ∃ C : List (Str × Str), C.Perm A ∧ C.Pairwise S ∧ p.2[o]? = some (.row ty109 2 ((P ++ C ++ Q).map fld)) ∧ Same o g p.2 := by
  subst ha hb
  have hl := hlen
  simp only [List.length_append] at hl
  obtain ⟨d, h', e, p1, s1⟩ := s1065 c cmp hcmp o N P.length (P.length + A.length) hN (by omega) (by omega) _ hlen g ho
  refine ⟨(d, h'), e, ?_⟩
  cases A with
  | nil =>
    refine ⟨[], by simp, List.Pairwise.nil, ?_, s1⟩
    rw [p1]
    simp [-bind_some, isr]
  | cons x A =>
    obtain ⟨C, q1, q2, q3⟩ := isr_ok od P Q A [x] (by simp) (fun u hu v hv => by simp at hu; subst hu; exact (List.pairwise_cons.1 hA).1 v hv) (List.pairwise_cons.1 hA).2
    refine ⟨C, q2, q3, ?_, s1⟩
    rw [p1]
    have e1 : P.length + (x :: A).length - (P.length + 1) = A.length := by simp; omega
    rw [e1]
    have e2 : P ++ x :: A ++ Q = P ++ [x] ++ A ++ Q := by simp
    rw [e2]
    exact congrArg (fun z : List (Str × Str) => some (Ob.row ty109 2 (z.map fld))) q1
theorem w1063 {c : Str × Str → Str × Str → Int} {S Pre : Str × Str → Str × Str → Prop} (od : SOrd c S Pre) {cmp : D} (hcmp : CmpF cmp c) {o N : Nat} (hN : N ≤ 1000000000) {g : Hp} {l : List (Str × Str)} (hl : l.length = N) (hpre : l.Pairwise Pre)
    (ho : g[o]? = some (.row ty109 2 (l.map fld))) : Wp (R fn1063 [.msl 2 o 0 N, .int .i64 N, cmp] g) fun p => ∃ C : List (Str × Str), C.Perm l ∧ C.Pairwise S ∧ p.2[o]? = some (.row ty109 2 (C.map fld)) ∧ Same o g p.2 := by
  rw [e1063]
  simp only [F1063, bs, Option.bind_assoc]
  refine Wp.loop (fun n ds g' => ∃ u, ∃ X Y : List (Str × Str), ds = [.int .i64 (X.length : Nat), .int .i64 ((X.length + 20 : Nat) : Int), u] ∧ n = Y.length ∧ (X ++ Y).Perm l ∧ Y.Pairwise Pre ∧ CtxB S Pre 20 X Y ∧ g'[o]? = some (.row ty109 2 ((X ++ Y).map fld)) ∧ Same o g g')
    (fun r => r.1 = .ext 0 ∧ ∃ u, ∃ X Y : List (Str × Str), r.2.1 = [.int .i64 (X.length : Nat), .int .i64 ((X.length + 20 : Nat) : Int), u] ∧ Y.length < 20 ∧ (X ++ Y).Perm l ∧ Y.Pairwise Pre ∧ CtxB S Pre 20 X Y ∧ r.2.2[o]? = some (.row ty109 2 ((X ++ Y).map fld)) ∧ Same o g r.2.2)
    l.length ⟨_, [], l, rfl, rfl, by simp, hpre, CtxB.nil, by simpa using ho, .refl _ _⟩ ?_ ?_
  · rintro n ds g' ⟨u, X, Y, rfl, rfl, hp, hY, hc, ho', sm⟩
    have hXY : X.length + Y.length = N := by rw [← hl, ← hp.length_eq]; simp [-bind_some]
    simp only [F1063_L0, nth_zero, nth_succ, bs, Option.bind_assoc, dBin_leq]
    refine Wp.dif ?_ ?_
    · intro h0
      have h0 : 20 ≤ Y.length := by have : ((X.length + 20 : Nat) : Int) ≤ (N : Int) := by simpa using h0
                                    omega
      obtain ⟨A, Y', rfl, hA⟩ : ∃ A Y', Y = A ++ Y' ∧ A.length = 20 := ⟨Y.take 20, Y.drop 20, (List.take_append_drop _ _).symm, by simp; omega⟩
      obtain ⟨y1, y2, y3⟩ := pre_split hY
      simp only [List.length_append] at hXY h0
      refine Wp.bind (ins_wp od hcmp hN (P := X) (A := A) (Q := Y') (by simp only [List.length_append]; omega) y1 (by rw [ho']; simp [-bind_some]) _ _ rfl (by omega)) ?_
      rintro ⟨d, g2⟩ ⟨C, q1, q2, q3, q4⟩
      have lC : C.length = 20 := by rw [q1.length_eq, hA]
      have w1 : IntKind.wrap .i64 (((X.length + 20 : Nat) : Int) + 20) = ((X.length + 20 + 20 : Nat) : Int) := by rw [wrap_i64 (by omega) (by omega)]; omega
      simp only [dBin_add, w1, bs]
      have eX : (X ++ C).length = X.length + 20 := by simp [-bind_some, lC]
      refine .some (.inl ⟨rfl, Y'.length, by simp only [List.length_append]; omega, _, X ++ C, Y', by rw [eX], rfl, ?_, y2, hc.step q1 lC q2 y3, q3, sm.trans q4⟩)
      refine List.Perm.trans ?_ hp
      rw [List.append_assoc]
      exact (q1.append_right Y').append_left X
    · intro h0
      have h0 : ¬ 20 ≤ Y.length := by have : ¬ ((X.length + 20 : Nat) : Int) ≤ (N : Int) := by simpa using h0
                                      omega
      exact .some (.inr ⟨by simp, rfl, _, X, Y, rfl, by omega, hp, hY, hc, ho', sm⟩)
  rintro ⟨ex, ds, g1⟩ ⟨rfl, u, X, Y, rfl, hYl, hp, hY, hc, ho1, s1⟩
  have hXY : X.length + Y.length = N := by rw [← hl, ← hp.length_eq]; simp [-bind_some]
  simp only [unblk_self, toEnd_nrm, nth_zero, nth_succ, bs]
  refine Wp.bind (ins_wp od hcmp hN (P := X) (A := Y) (Q := []) (by simp only [List.length_append, List.length_nil]; omega) hY (by simpa using ho1) _ _ rfl (by omega)) ?_
  rintro ⟨d, g2⟩ ⟨C, q1, q2, q3, q4⟩
  have bl : Blk S Pre 20 (X ++ C) := hc.done q1 (by rw [q1.length_eq]; omega) q2
  have hpZ : (X ++ C).Perm l := (q1.append_left X).trans hp
  have q3 : g2[o]? = some (.row ty109 2 ((X ++ C).map fld)) := by simpa using q3
  have s2 : Same o g g2 := s1.trans q4
  generalize X ++ C = Z at bl hpZ q3
  clear q1 q2 hc hY ho1 s1 q4
  simp only [bs, Option.bind_assoc]
  refine Wp.loop (fun n ds g' => ∃ u1 u2 u3 u4 u5 u6, ∃ k : Nat, ∃ Z : List (Str × Str), ds = [.int .i64 (k : Int), u1, u2, u3, u4, u5, u6] ∧ n = N - k ∧ 0 < k ∧ k ≤ 2000000000 ∧ Z.Perm l ∧ Blk S Pre k Z ∧ g'[o]? = some (.row ty109 2 (Z.map fld)) ∧ Same o g g')
    (fun r => r.1 = .ext 2 ∧ ∃ u1 u2 u3 u4 u5 u6 u7, r.2.1 = [u1, u2, u3, u4, u5, u6, u7] ∧ ∃ Z : List (Str × Str), Z.Perm l ∧ Z.Pairwise S ∧ r.2.2[o]? = some (.row ty109 2 (Z.map fld)) ∧ Same o g r.2.2)
    (N - 20) ⟨_, _, _, _, _, _, 20, Z, rfl, rfl, by omega, by omega, hpZ, bl, q3, s2⟩ ?_ ?_
  · clear q3 s2 bl hpZ Z hXY hp
    rintro n ds g3 ⟨u1, u2, u3, u4, u5, u6, k, Z, rfl, rfl, k0, k1, hp, bl, ho3, s3⟩
    have lZ : Z.length = N := by rw [hp.length_eq, hl]
    simp only [F1063_L1, nth_zero, nth_succ, bs, Option.bind_assoc, dBin_lss]
    refine Wp.dif ?_ ?_
    · intro h0
      have h0 : k < N := by have : (k : Int) < (N : Int) := by simpa using h0
                            omega
      have w1 : IntKind.wrap .i64 ((2 : Int) * (k : Int)) = ((2 * k : Nat) : Int) := by rw [wrap_i64 (by omega) (by omega)]; omega
      simp only [dBin_mul, w1, bs, Option.bind_assoc]
      refine Wp.loop (fun n ds g' => ∃ u, ∃ X Y : List (Str × Str), ds = [.int .i64 (X.length : Nat), .int .i64 ((X.length + 2 * k : Nat) : Int), u] ∧ n = Y.length ∧ (X ++ Y).Perm l ∧ Blk S Pre k Y ∧ CtxB S Pre (2 * k) X Y ∧ g'[o]? = some (.row ty109 2 ((X ++ Y).map fld)) ∧ Same o g g')
        (fun r => r.1 = .ext 4 ∧ ∃ u v, ∃ X Y : List (Str × Str), r.2.1 = [.int .i64 (X.length : Nat), u, v] ∧ Y.length < 2 * k ∧ (X ++ Y).Perm l ∧ Blk S Pre k Y ∧ CtxB S Pre (2 * k) X Y ∧ r.2.2[o]? = some (.row ty109 2 ((X ++ Y).map fld)) ∧ Same o g r.2.2)
        N ⟨u5, [], Z, by simp, lZ.symm, by simpa using hp, bl, CtxB.nil, by simpa using ho3, s3⟩ ?_ ?_
      · rintro n ds g4 ⟨u, X, Y, rfl, rfl, hp4, bl4, hc4, ho4, s4⟩
        have hXY : X.length + Y.length = N := by rw [← hl, ← hp4.length_eq]; simp [-bind_some]
        simp only [F1063_L2, nth_zero, nth_succ, bs, Option.bind_assoc, dBin_leq]
        refine Wp.dif ?_ ?_
        · intro h1
          have h1 : 2 * k ≤ Y.length := by have : ((X.length + 2 * k : Nat) : Int) ≤ (N : Int) := by simpa using h1
                                           omega
          obtain ⟨A, Y1, rfl, lA, sA, pA, bY1⟩ := bl4.fst (by omega)
          simp only [List.length_append] at hXY h1
          obtain ⟨B, Y2, rfl, lB, sB, pB, bY2⟩ := bY1.fst (by omega)
          simp only [List.length_append] at hXY h1
          have w2 : IntKind.wrap .i64 ((X.length : Int) + (k : Int)) = ((X.length + A.length : Nat) : Int) := by rw [wrap_i64 (by omega) (by omega)]; omega
          simp only [dBin_add, w2, bs, Option.bind_assoc]
          refine Wp.bind (w1066 od hcmp hN (A.length + B.length) g4 X A B Y2 _ _ _ (Nat.le_refl _) (by simp only [List.length_append]; omega) (by omega) (by omega) sA sB (fun x hx y hy => pA x hx y (by simp [-bind_some, hy])) (by rw [ho4]; simp [-bind_some]) rfl rfl (by omega)) ?_
          rintro ⟨d, g5⟩ ⟨C, q1, q2, q3, q4⟩
          have lC : C.length = 2 * k := by rw [q1.length_eq, List.length_append]; omega
          have w3 : IntKind.wrap .i64 (((X.length + 2 * k : Nat) : Int) + ((2 * k : Nat) : Int)) = ((X.length + 2 * k + 2 * k : Nat) : Int) := by rw [wrap_i64 (by omega) (by omega)]; omega
          simp only [dBin_mul, dBin_add, w1, w3, bs]
          have eX : (X ++ C).length = X.length + 2 * k := by simp [-bind_some, lC]
          refine .some (.inl ⟨rfl, Y2.length, by simp only [List.length_append]; omega, _, X ++ C, Y2, by rw [eX], rfl, ?_, bY2, CtxB.step (A := A ++ B) (by rw [List.append_assoc]; exact hc4) q1 lC q2 (fun x hx y hy => ?_), q3, s4.trans q4⟩)
          · refine List.Perm.trans ?_ hp4
            rw [List.append_assoc, ← List.append_assoc A B Y2]
            exact (q1.append_right Y2).append_left X
          · rcases List.mem_append.1 hx with hx | hx
            · exact pA x hx y (by simp [-bind_some, hy])
            · exact pB x hx y hy
        · intro h1
          have h1 : ¬ 2 * k ≤ Y.length := by have : ¬ ((X.length + 2 * k : Nat) : Int) ≤ (N : Int) := by simpa using h1
                                             omega
          exact .some (.inr ⟨by simp, rfl, _, _, X, Y, rfl, by omega, hp4, bl4, hc4, ho4, s4⟩)
      rintro ⟨ex, ds, g4⟩ ⟨rfl, u, v, X, Y, rfl, hYl, hp4, bl4, hc4, ho4, s4⟩
      have hXY : X.length + Y.length = N := by rw [← hl, ← hp4.length_eq]; simp [-bind_some]
      have w2 : IntKind.wrap .i64 ((X.length : Int) + (k : Int)) = ((X.length + k : Nat) : Int) := by rw [wrap_i64 (by omega) (by omega)]; omega
      have w4 : IntKind.wrap .i64 ((k : Int) * 2) = ((2 * k : Nat) : Int) := by rw [wrap_i64 (by omega) (by omega)]; omega
      simp only [unblk_self, toEnd_nrm, nth_zero, nth_succ, bs, dBin_add, w2, dBin_lss, Option.bind_assoc]
      refine Wp.bind (P := fun r => r.1 = .nrm ∧ ∃ Z : List (Str × Str), Z.Perm l ∧ Blk S Pre (2 * k) Z ∧ r.2.2[o]? = some (.row ty109 2 (Z.map fld)) ∧ Same o g r.2.2) ?_ ?_
      · by_cases hm : X.length + k < N
        · have d1 : decide (((X.length + k : Nat) : Int) < (N : Int)) = true := decide_eq_true (by omega)
          obtain ⟨A, B, rfl, lA, sA, pA, bB⟩ := bl4.fst (by omega)
          simp only [List.length_append] at hXY hYl
          have sB : B.Pairwise S := bB.all (by omega)
          simp only [d1, dIf_bool, if_true]
          refine Wp.bind (w1066 od hcmp hN (A.length + B.length) g4 X A B [] _ _ _ (Nat.le_refl _) (by simp only [List.length_append, List.length_nil]; omega) (by omega) (by omega) sA sB pA (by rw [ho4]; simp [-bind_some]) rfl (by omega) (by omega)) ?_
          rintro ⟨d, g5⟩ ⟨C, q1, q2, q3, q4⟩
          refine .some ⟨rfl, X ++ C, (q1.append_left X).trans hp4, hc4.done q1 (by rw [q1.length_eq, List.length_append]; omega) q2, by simpa using q3, s4.trans q4⟩
        · have d1 : decide (((X.length + k : Nat) : Int) < (N : Int)) = false := decide_eq_false (by omega)
          simp only [d1, dIf_bool, Bool.false_eq_true, if_false]
          exact .some ⟨rfl, X ++ Y, hp4, hc4.done (List.Perm.refl _) (by omega) (bl4.all (by omega)), ho4, s4⟩
      rintro ⟨ex, ds, g5⟩ ⟨rfl, Z2, hp5, bl5, ho5, s5⟩
      simp only [toEnd_nrm, bs, w4]
      exact .some (.inl ⟨rfl, N - 2 * k, by omega, _, _, _, _, _, _, 2 * k, Z2, rfl, rfl, by omega, by omega, hp5, bl5, ho5, s5⟩)
    · intro h0
      have h0 : ¬ k < N := by have : ¬ (k : Int) < (N : Int) := by simpa using h0
                              omega
      exact .some (.inr ⟨by simp, rfl, _, _, _, _, _, _, _, rfl, Z, hp, bl.all (by omega), ho3, s3⟩)
  rintro ⟨ex, ds, g3⟩ ⟨rfl, u1, u2, u3, u4, u5, u6, u7, rfl, Z3, hp3, sZ, ho3, s3⟩
  simp only [unblk_self, exEnd_nrm, bs]
  exact .some ⟨Z3, hp3, sZ, ho3, s3⟩
def leS (x y : Str × Str) : Prop := ¬ cF y x < 0
theorem leS_def (x y : Str × Str) : leS x y ↔ Op.bytesLess y.1 x.1 = false := by
  unfold leS cF
  rw [cmpB_lt]
  simp [-bind_some]
theorem leS_tr {x y z : Str × Str} (h : leS x y) (k : leS y z) : leS x z := by
  rw [leS_def] at *
  cases hh : Op.bytesLess z.1 x.1
  · rfl
  · by_cases he : y.1 = x.1
    · rw [he, hh] at k; cases k
    · have := bL_tr hh (bL_tot h he)
      rw [this] at k; cases k
theorem leS_od : SOrd cF leS (fun _ _ => True) where
  tr := fun x y z => leS_tr
  lt := fun x y _ h => by
    unfold leS
    intro h2
    unfold cF at h h2
    rw [cmpB_lt] at h h2
    have := bL_tr h h2
    rw [bL_irr] at this
    cases this
  ge := fun x y _ h => h
theorem leS_anti {x y : Str × Str} (h : leS x y) (k : leS y x) : x.1 = y.1 := by
  rw [leS_def] at h k
  apply Classical.byContradiction
  intro hn
  have := bL_tot k hn
  rw [this] at h; cases h
theorem sorted_adj : ∀ {C : List (Str × Str)}, C.Pairwise leS → (adjB C = false ↔ (C.map Prod.fst).Nodup)
  | [], _ => by simp [-bind_some, adjB]
  | [x], _ => by simp [-bind_some, adjB]
  | x :: y :: r, h => by
    have ih := sorted_adj (C := y :: r) (List.pairwise_cons.1 h).2
    have hx := (List.pairwise_cons.1 h).1
    have hy := (List.pairwise_cons.1 (List.pairwise_cons.1 h).2).1
    rw [List.map_cons, List.nodup_cons]
    unfold adjB
    rw [Bool.or_eq_false_iff, ih]
    constructor
    · rintro ⟨h1, h2⟩
      refine ⟨fun hm => ?_, h2⟩
      have h1 : y.1 ≠ x.1 := by simpa using h1
      obtain ⟨z, hz, hzx⟩ := List.mem_map.1 hm
      rcases List.mem_cons.1 hz with rfl | hz
      · exact h1 hzx
      · have h3 : leS y x := by
          have := hy z hz
          rw [leS_def] at this ⊢
          rw [← hzx]; exact this
        exact h1 (leS_anti h3 (hx y (by simp)))
    · rintro ⟨h1, h2⟩
      refine ⟨?_, h2⟩
      have : y.1 ≠ x.1 := fun hh => h1 (by rw [List.map_cons, hh]; simp [-bind_some])
      simpa using this
theorem sorted_uniq : ∀ {C E : List (Str × Str)}, C.Pairwise leS → E.Pairwise leS → C.Perm E → (C.map Prod.fst).Nodup → C = E
  | [], E, _, _, hp, _ => by rw [List.nil_perm.1 hp]
  | x :: C, [], _, _, hp, _ => by cases List.perm_nil.1 hp
  | x :: C, y :: E, hC, hE, hp, hn => by
    rw [List.pairwise_cons] at hC hE
    rw [List.map_cons, List.nodup_cons] at hn
    have hxy : x = y := by
      apply Classical.byContradiction
      intro hne
      have hx : x ∈ E := by
        have : x ∈ y :: E := hp.mem_iff.1 (by simp)
        rcases List.mem_cons.1 this with h | h
        · exact absurd h hne
        · exact h
      have hy : y ∈ C := by
        have : y ∈ x :: C := hp.mem_iff.2 (by simp)
        rcases List.mem_cons.1 this with h | h
        · exact absurd h.symm hne
        · exact h
      have := leS_anti (hC.1 y hy) (hE.1 x hx)
      exact hn.1 (by rw [this]; exact List.mem_map.2 ⟨y, hy, rfl⟩)
    subst hxy
    rw [sorted_uniq hC.2 hE.2 ((List.perm_cons x).1 hp) hn.2]
theorem srt_ok (l : List (Str × Str)) : (srt l).Perm l ∧ (srt l).Pairwise leS := by
  cases l with
  | nil => exact ⟨by simp [-bind_some, srt, isr], by simp [-bind_some, srt, isr]⟩
  | cons x B =>
    obtain ⟨C, q1, q2, q3⟩ := isr_ok leS_od [] [] B [x] (by simp) (fun _ _ _ _ => trivial) (List.Pairwise.imp (fun _ => trivial) (List.pairwise_of_forall (l := B) (R := fun _ _ => True) (fun _ _ => trivial)))
    have e : srt (x :: B) = C := by
      unfold srt
      have : (x :: B).length - 1 = B.length := by simp
      rw [this]
      simpa using q1
    rw [e]
    exact ⟨by simpa using q2, q3⟩
theorem sort_any {C l : List (Str × Str)} (hp : C.Perm l) (hs : C.Pairwise leS) : adjB C = adjB (srt l) ∧ (adjB C = false → C = srt l) := by
  obtain ⟨h1, h2⟩ := srt_ok l
  have hq : C.Perm (srt l) := hp.trans h1.symm
  have hn : (C.map Prod.fst).Nodup ↔ ((srt l).map Prod.fst).Nodup := (hq.map Prod.fst).nodup_iff
  have a1 := sorted_adj hs
  have a2 := sorted_adj h2
  refine ⟨?_, fun h => sorted_uniq hs h2 hq (a1.1 h)⟩
  cases hC : adjB C <;> cases hS : adjB (srt l)
  · rfl
  · have := a2.2 (hn.1 (a1.1 hC)); rw [this] at hS; cases hS
  · have := a1.2 (hn.2 (a2.1 hS)); rw [this] at hC; cases hC
  · rfl
theorem w1057 {cmp : D} (hcmp : CmpF cmp cF) {o N : Nat} (hN : N ≤ 1000000000) {g : Hp} {l : List (Str × Str)} (hl : l.length = N) (ho : g[o]? = some (.row ty109 2 (l.map fld))) :
    ∃ d g', ∃ C : List (Str × Str), R fn1057 [.msl 2 o 0 N, cmp] g = some (d, g') ∧ C.Perm l ∧ C.Pairwise leS ∧ g'[o]? = some (.row ty109 2 (C.map fld)) ∧ Same o g g' := by
  obtain ⟨⟨d, g'⟩, e, C, q1, q2, q3, q4⟩ := w1063 leS_od hcmp hN hl (List.pairwise_of_forall fun _ _ => trivial) ho
  refine ⟨mkRes [], g', C, ?_, q1, q2, q3, q4⟩
  rw [e1057]
  simp only [F1057, bs, lenm29, e]
theorem s1052w (l : List (Str × Str)) (d : D) (h : Hp) (hd : SlOf 2 fld l d) : ∃ d' h', R fn1052 [d] h = some (.tup [d', .int .i64 (sortF l).1], h') ∧ h.length ≤ h'.length ∧ (∀ q, q < h.length → h'[q]? = h[q]?) ∧ ((sortF l).1 = 0 → RdF h' (sortF l).2 d') := by
  suffices Wp (R fn1052 [d] h) (fun p => ∃ d', p.1 = .tup [d', .int .i64 (sortF l).1] ∧ h.length ≤ p.2.length ∧ (∀ q, q < h.length → p.2[q]? = h[q]?) ∧ ((sortF l).1 = 0 → RdF p.2 (sortF l).2 d')) by
    obtain ⟨⟨x, h'⟩, h1, d', rfl, h2⟩ := this
    exact ⟨d', h', h1, h2⟩
  rw [e1052]
  by_cases h32n : 32 < l.length
  · have h32 : (32 : Int) < (l.length : Int) := by omega
    have hs : sortF l = (4, []) := by simp only [sortF, h32n, if_true]
    rw [hs]
    simp only [F1052, bs, Option.bind_assoc, lens29 hd, dBin_gtr, h32, decide_true, dIf_bool, if_true, mkRes_two]
    exact .some ⟨.nils, rfl, Nat.le_refl _, fun _ _ => rfl, fun hh => by cases hh⟩
  have h32 : ¬ (32 : Int) < (l.length : Int) := by omega
  simp only [F1052, bs, Option.bind_assoc, lens29 hd, dBin_gtr, h32, decide_false, dIf_bool, Bool.false_eq_true, if_false]
  refine l1052a l d h hd (by omega) _ _ _ _ _ (fun hv x y z w => ?_) (fun hv x y z w => ?_)
  · simp only [unblk_self, toEnd_nrm, nth_zero, nth_succ, bs]
    obtain ⟨d1, h1, e1, hl1, hb1, hd1⟩ := u1009 l d h hd (by omega)
    simp only [e1, bs]
    have hsrt : ∃ x h2, ∃ C : List (Str × Str), R fn1057 [d1, .fn (.func fn1058) [] []] h1 = some (x, h2) ∧ h.length ≤ h2.length ∧ (∀ q, q < h.length → h2[q]? = h[q]?) ∧ C.Perm l ∧ C.Pairwise leS ∧ RdF h2 C d1 := by
      rcases hd1 with ⟨rfl, hd1⟩ | ⟨ob, hob, rfl, ho⟩
      · obtain ⟨x, hx⟩ := s1057e d1 (.fn (.func fn1058) [] []) h1 hd1
        exact ⟨x, h1, [], hx, hl1, hb1, List.Perm.refl _, List.Pairwise.nil, .inl hd1⟩
      · obtain ⟨x, h2, C, q1, q2, q3, q4, q5⟩ := w1057 (cmp := .fn (.func fn1058) [] []) (fun x y g => c1058 x y g) (o := ob) (N := l.length) (by omega) rfl ho
        refine ⟨x, h2, C, q1, by have := q5.1; omega, fun q hq => (q5.2 q (by omega)).trans (hb1 q hq), q2, q3, .inr ⟨ob, by rw [q2.length_eq], q4⟩⟩
    obtain ⟨u, h2, C, e2, hl2, hb2, hpC, hsC, hr⟩ := hsrt
    obtain ⟨ad, un⟩ := sort_any hpC hsC
    simp only [e2, bs]
    refine l1052b C d1 h2 hr (by rw [hpC.length_eq]; omega) _ _ _ _ (fun ha x y z => ?_) (fun ha x y z => ?_)
    · have hs : sortF l = (0, srt l) := by simp only [sortF, h32n, if_false, hv, if_true, ← ad, ha, Bool.false_eq_true]
      rw [hs]
      simp only [unblk_self, toEnd_nrm, bs, mkRes_two]
      exact .some ⟨d1, rfl, hl2, hb2, fun _ => by rw [← un ha]; exact hr⟩
    · have hs : sortF l = (7, []) := by simp only [sortF, h32n, if_false, hv, if_true, ← ad, ha]
      rw [hs]
      simp only [unblk_ret, toEnd_ret, exEnd_ret, nth_zero, nth_succ, bs, mkRes_two]
      exact .some ⟨.nils, rfl, hl2, hb2, fun hh => by cases hh⟩
  · have hs : sortF l = (6, []) := by simp only [sortF, h32n, if_false, hv]; rfl
    rw [hs]
    simp only [unblk_ret, toEnd_ret, exEnd_ret, nth_zero, nth_succ, bs, mkRes_two]
    exact .some ⟨.nils, rfl, Nat.le_refl _, fun _ _ => rfl, fun hh => by cases hh⟩
theorem s1043w (e : Ev) (h : Hp) : R fn1043 [.agg (evr e)] h = some (.int .i64 (evE e), h) := s1043g e h fun p => s1052w e.fs e.fd p e.hfd
theorem s1042w (i : It) (h : Hp) : R fn1042 [.agg (itr i)] h = some (.int .i64 (itE i), h) := s1042g i h (s1043w i.e h)
structure Rw where
  k : List Str
  kd : D
  hk : SlOf 1 (fun s => [D.str s]) k kd
  hkl : k.length ≤ 1000000
  n : List Int
  nd : D
  hn : SlOf 1 inr n nd
  hnl : n.length ≤ 1000000
  er : Int
theorem drop_cons {α : Type} {l : List α} {i : Nat} {x : α} (h : l[i]? = some x) : l.drop i = x :: l.drop (i + 1) := by
  obtain ⟨hn, hh⟩ := List.getElem?_eq_some_iff.1 h
  rw [List.drop_eq_getElem_cons hn, hh]
def rwa : Rw := ⟨[], .nils, .nils _ _, by simp, [1], .sl 1 true [[.int .i64 1]], .inr ⟨true, rfl⟩, by simp, 0⟩
theorem s1011g (e : Ev) (h : Hp) : R fn1011 [.agg (evr e)] h = some (.int .i64 (if plB e = true then 0 else 2), h) := by
  rw [e1011]
  simp only [F1011, pBoxF_agg, bs, evr, fa31_0, fa31_1, fa31_2, fa31_3, ld3, dBin_lss, dBin_gtr, dBin_leq]
  by_cases g1 : e.a0 < 0
  · have hp : plB e = false := by
      cases hh : plB e
      · rfl
      · simp [-bind_some, plB] at hh; omega
    simp only [g1, hp, decide_true, decide_false, gd_bool, gd_und, reduceCtorEq, Bool.true_eq_false, Bool.false_eq_true, if_true, if_false, bs, fa31_0, fa31_1, fa31_2, fa31_3, ld3, dBin_lss, dBin_gtr, dBin_leq, dPick_bool, dIf_bool, mkRes_one]
  by_cases g2 : 999 < e.a0
  · have hp : plB e = false := by
      cases hh : plB e
      · rfl
      · simp [-bind_some, plB] at hh; omega
    simp only [g1, g2, hp, decide_true, decide_false, gd_bool, gd_und, reduceCtorEq, Bool.true_eq_false, Bool.false_eq_true, if_true, if_false, bs, fa31_0, fa31_1, fa31_2, fa31_3, ld3, dBin_lss, dBin_gtr, dBin_leq, dPick_bool, dIf_bool, mkRes_one]
  by_cases g3 : e.a1 < 0
  · have hp : plB e = false := by
      cases hh : plB e
      · rfl
      · simp [-bind_some, plB] at hh; omega
    simp only [g1, g2, g3, hp, decide_true, decide_false, gd_bool, gd_und, reduceCtorEq, Bool.true_eq_false, Bool.false_eq_true, if_true, if_false, bs, fa31_0, fa31_1, fa31_2, fa31_3, ld3, dBin_lss, dBin_gtr, dBin_leq, dPick_bool, dIf_bool, mkRes_one]
  by_cases g4 : 2147483646 < e.a1
  · have hp : plB e = false := by
      cases hh : plB e
      · rfl
      · simp [-bind_some, plB] at hh; omega
    simp only [g1, g2, g3, g4, hp, decide_true, decide_false, gd_bool, gd_und, reduceCtorEq, Bool.true_eq_false, Bool.false_eq_true, if_true, if_false, bs, fa31_0, fa31_1, fa31_2, fa31_3, ld3, dBin_lss, dBin_gtr, dBin_leq, dPick_bool, dIf_bool, mkRes_one]
  by_cases g5 : e.a2 < 0
  · have hp : plB e = false := by
      cases hh : plB e
      · rfl
      · simp [-bind_some, plB] at hh; omega
    simp only [g1, g2, g3, g4, g5, hp, decide_true, decide_false, gd_bool, gd_und, reduceCtorEq, Bool.true_eq_false, Bool.false_eq_true, if_true, if_false, bs, fa31_0, fa31_1, fa31_2, fa31_3, ld3, dBin_lss, dBin_gtr, dBin_leq, dPick_bool, dIf_bool, mkRes_one]
  by_cases g6 : e.a3 ≤ e.a2
  · have hp : plB e = false := by
      cases hh : plB e
      · rfl
      · simp [-bind_some, plB] at hh; omega
    simp only [g1, g2, g3, g4, g5, g6, hp, decide_true, decide_false, gd_bool, gd_und, reduceCtorEq, Bool.true_eq_false, Bool.false_eq_true, if_true, if_false, bs, fa31_0, fa31_1, fa31_2, fa31_3, ld3, dBin_lss, dBin_gtr, dBin_leq, dPick_bool, dIf_bool, mkRes_one]
  by_cases g7 : 60000 < e.a3
  · have hp : plB e = false := by
      cases hh : plB e
      · rfl
      · simp [-bind_some, plB] at hh; omega
    simp only [g1, g2, g3, g4, g5, g6, g7, hp, decide_true, decide_false, gd_bool, gd_und, reduceCtorEq, Bool.true_eq_false, Bool.false_eq_true, if_true, if_false, bs, fa31_0, fa31_1, fa31_2, fa31_3, ld3, dBin_lss, dBin_gtr, dBin_leq, dPick_bool, dIf_bool, mkRes_one]
  have hp : plB e = true := by simp [-bind_some, plB]; omega
  simp only [g1, g2, g3, g4, g5, g6, g7, hp, decide_true, decide_false, gd_bool, gd_und, reduceCtorEq, Bool.true_eq_false, Bool.false_eq_true, if_true, if_false, bs, fa31_0, fa31_1, fa31_2, fa31_3, ld3, dBin_lss, dBin_gtr, dBin_leq, dPick_bool, dIf_bool, mkRes_one]
theorem s1014g (w : Int) (h : Hp) : R fn1014 [.int .i64 w] h = some (.bool (decide (¬ (w < 1 ∨ Int.tmod 5040 w ≠ 0))), h) := by
  rw [e1014]
  simp only [F1014, bs, dBin_geq, dBin_leq]
  by_cases h1 : w < 1
  · have g1 : ¬ w ≥ 1 := by omega
    simp only [h1, g1, decide_false, gd_bool, reduceCtorEq, Bool.false_eq_true, if_false, bs, dPick_bool, true_or, not_true, mkRes_one]
  · have g1 : w ≥ 1 := by omega
    have g0 : ¬ w = 0 := by omega
    by_cases h2 : w ≤ 5040
    · by_cases h3 : Int.tmod 5040 w = 0
      · simp only [h1, g1, h2, g0, h3, decide_true, gd_bool, if_true, if_false, bs, dPick_bool, dBin_rem, dBin_leq, dBin_eql, ne_eq, not_true, or_self, not_false_eq_true, mkRes_one]
      · simp only [h1, g1, h2, g0, h3, decide_true, decide_false, gd_bool, if_true, if_false, bs, dPick_bool, dBin_rem, dBin_leq, dBin_eql, ne_eq, not_false_eq_true, or_true, not_true, mkRes_one]
    · have h3 : ¬ Int.tmod 5040 w = 0 := by
        rw [Int.tmod_eq_emod_of_nonneg (by omega), Int.emod_eq_of_lt (by omega) (by omega)]; omega
      simp only [h1, g1, h2, h3, decide_true, decide_false, gd_bool, reduceCtorEq, Bool.false_eq_true, if_true, if_false, bs, dBin_leq, dPick_bool, ne_eq, not_false_eq_true, or_true, not_true, mkRes_one]
end Go.Proofs.YtlpedofpnbggbaaDoor
