/- Laws, on plain data, about functions that the statement reaches. -/
import Derived.Test.YtpenlmgmofhbpaaDoorL5
set_option linter.unusedSimpArgs false
set_option linter.unusedVariables false
set_option linter.unnecessarySimpa false
set_option maxRecDepth 100000
namespace Go.Proofs.YtpenlmgmofhbpaaDoor
open Go.Eng Go.Pi
theorem s1096 {n0 w : Nat} {g : Hp} {ms : List Mrk} {ts : List Tal} {evs : List (Ev × D)} {dm dt de : D} (W : WkI n0 w g ms ts evs dm dt de) (hlm : ms.length ≤ 100000) (hlt : ts.length ≤ 100000) (hle : evs.length ≤ 100000) (i : It) (hn : i.e.ls.length ≤ 1000) (hf : i.e.fs.length ≤ 1000) :
    ∃ (b : Bool) (g' : Hp), R fn1096 [.ptr w 0 0, .agg (itr i)] g = some (.bool b, g') ∧ g.length ≤ g'.length ∧ (∀ q, q < n0 → g'[q]? = g[q]?) ∧ TkPost n0 w ms ts evs dm dt de i b g' := by
  suffices Wp (R fn1096 [.ptr w 0 0, .agg (itr i)] g) (fun p => ∃ b : Bool, p.1 = .bool b ∧ g.length ≤ p.2.length ∧ (∀ q, q < n0 → p.2[q]? = g[q]?) ∧ TkPost n0 w ms ts evs dm dt de i b p.2) by
    obtain ⟨⟨x, g'⟩, h1, b, rfl, h2⟩ := this
    exact ⟨b, g', h1, h2⟩
  rw [e1096]
  have hn0 := W.len
  have hwn := W.wn
  have wl := (List.getElem?_eq_some_iff.1 W.row).1
  simp only [F1096]
  rw [wBox_agg ty74 11 g (itr i) rfl (by omega)]
  have hold : ∀ q, q < g.length → (dNew g ty74 11 [itr i])[q]? = g[q]? := fun q hq => dNew_old _ _ _ _ hq
  have hz : (dNew g ty74 11 [itr i])[g.length]? = some (.row ty74 11 [itr i]) := dNew_get _ _ _ _
  have hzl : (dNew g ty74 11 [itr i]).length = g.length + 1 := by simp [-Option.bind_some, dNew]
  have W1 := W.new (g' := dNew g ty74 11 [itr i]) (by omega) hold
  generalize dNew g ty74 11 [itr i] = g1 at hold hz hzl W1
  generalize hZ : List.length g = z at hz hzl
  have l0 : dLoad tab g1 ty3 (.ptr z 0 (0 + 1 + 0)) = some (.int .i64 i.e.a0) := by rw [ldp3, row_of hz]; rfl
  have l1 : dLoad tab g1 ty3 (.ptr z 0 (0 + 1 + 1)) = some (.int .i64 i.e.a1) := by rw [ldp3, row_of hz]; rfl
  have l2 : dLoad tab g1 ty3 (.ptr z 0 (0 + 1 + 2)) = some (.int .i64 i.e.a2) := by rw [ldp3, row_of hz]; rfl
  have l3 : dLoad tab g1 ty3 (.ptr z 0 (0 + 1 + 3)) = some (.int .i64 i.e.a3) := by rw [ldp3, row_of hz]; rfl
  have l4 : dLoad tab g1 ty28 (.ptr z 0 (0 + 1 + 4)) = some i.e.ld := by rw [ldp28, row_of hz]; rfl
  have lI : dLoad tab g1 ty1009 (.ptr w 0 (0 + 0)) = some (.agg [dm, dt]) := by rw [ldp1009, row_of W1.row]; rfl
  have hmk := s1005r ms dm dt i.e.a0 i.e.a1 g1 W1.mr.rd (by omega) W.ma
  unfold TkPost
  generalize hM : markOf ms i.e.a0 i.e.a1 = m at hmk
  have hsm : ∀ {g2 g3 : Hp}, Same w g2 g3 → (∀ q, q < n0 → g2[q]? = g[q]?) → ∀ q, q < n0 → g3[q]? = g[q]? := fun s h q hq => (s.2 q (by omega)).trans (h q hq)
  have h1b : ∀ q, q < n0 → g1[q]? = g[q]? := fun q hq => hold q (by omega)
  simp only [bs, fap74_1, fap31_0, fap31_1, fap31_2, fap31_3, fap31_4, l0, l1, l2, l3, l4, nilCheck_ptr, fap1073_0, lI, hmk, lens28 i.e.hld, dBin_leq]
  refine Wp.chk trivial ?_
  refine Wp.dif ?_ ?_
  · intro hle2
    have hle2 : i.e.a3 ≤ m := by simpa [-Option.bind_some] using hle2
    have hO : tkO m i = some none := by unfold tkO; rw [if_pos hle2]
    obtain ⟨dt', g2, e2, q2, hd2, s2⟩ := s1097 W1.row W1.tl.rd (by omega) W.ta i.e.a0 dupR (i.e.ls.length : Int)
    have e2 : R fn1097 [.ptr w 0 0, .int .i64 i.e.a0, .str [42], .int .i64 i.e.ls.length] g1 = some (.tup [], g2) := e2
    refine Wp.step e2 ?_
    simp only [bs, mkRes_one]
    refine .some ⟨true, rfl, by have := s2.1; show z ≤ g2.length; omega, hsm s2 h1b, ?_⟩
    rw [hO]
    exact ⟨rfl, dt', W1.chg W1.row (by decide) (by decide) (by decide) s2 q2 (.inl hd2) (addT_asc W.ta _ _ _)⟩
  intro hle2
  have hle2 : ¬ i.e.a3 ≤ m := by simpa [-Option.bind_some] using hle2
  simp only [bs, dBin_gtr]
  refine Wp.dif ?_ ?_
  · intro hgt
    have hgt : m < i.e.a2 := by simpa [-Option.bind_some] using hgt
    have hO : tkO m i = none := by unfold tkO; rw [if_neg hle2, if_pos hgt]
    simp only [bs, mkRes_one]
    refine .some ⟨false, rfl, by show z ≤ g1.length; omega, h1b, ?_⟩
    rw [hO]
  intro hgt
  have hgt : ¬ m < i.e.a2 := by simpa [-Option.bind_some] using hgt
  simp only [bs, dBin_lss]
  -- the lines before the mark
  refine Wp.join (P := fun r => (∃ (g2 : Hp) (a b c : D), r = (.ret, [.bool false, a, b, c], g2) ∧ g.length ≤ g2.length ∧ (∀ q, q < n0 → g2[q]? = g[q]?) ∧ tkO m i = none) ∨
      (∃ g2 j k dt' a b c, r = (.nrm, [.bool false, a, b, c], g2) ∧ g.length ≤ g2.length ∧ (∀ q, q < n0 → g2[q]? = g[q]?) ∧ tkO m i = some (some k) ∧ CutOf i m k j ∧ g2[z]? = some (.row ty74 11 [itr j]) ∧ WkI n0 w g2 ms (addT ts i.e.a0 dupR (k : Nat)) evs dm dt' de)) ?_ ?_ ?_
  · intro hlt2
    have hlt2 : i.e.a2 < m := by simpa [-Option.bind_some] using hlt2
    obtain ⟨j, ec, hc⟩ := s1002u i m g1 (by omega) (by omega)
    simp only [ldIt0 hz, bs]
    refine Wp.step ec ?_
    simp only [bs, dExtract_tup, List.getElem?_cons_zero, List.getElem?_cons_succ, boxIt, dUn_not]
    generalize hK : idx (fun l : Lin => decide (l.off = m)) 0 i.e.ls = kk at hc
    have hkr := idx_range (fun l : Lin => decide (l.off = m)) i.e.ls 0
    rw [hK] at hkr
    refine Wp.dif ?_ ?_
    · intro hk1
      have hk1 : kk < 1 := by simpa [-Option.bind_some] using hk1
      try simp only [bs]
      exact .some (.inl ⟨g1, _, _, _, rfl, by omega, h1b, by unfold tkO; rw [if_neg hle2, if_neg hgt, if_pos hlt2, hK, if_pos hk1]⟩)
    · intro hk1
      have hk1 : ¬ kk < 1 := by simpa [-Option.bind_some] using hk1
      rw [if_neg hk1] at hc
      have hkn : kk < i.e.ls.length := by
        rcases hkr with h | ⟨_, h⟩
        · exact absurd h hk1
        · simpa [-Option.bind_some] using h
      simp only [ldIt, bs, Option.bind_assoc]
      refine put_it hz rfl fun g2 hz2 s2 => ?_
      have hwz : w ≠ z := row_ne W1.row hz (by decide)
      have W2 := W1.chg0 hz (by decide) (by decide) (by decide) (by decide) s2 ((s2.2 w hwz).trans W1.row)
      have h2b : ∀ q, q < n0 → g2[q]? = g[q]? := fun q hq => (s2.2 q (by omega)).trans (h1b q hq)
      have l5 : dLoad tab g2 ty28 (.ptr z 0 (0 + 1 + 4)) = some j.e.ld := by rw [ldp28, row_of hz2]; rfl
      have hjl : j.e.ls.length = i.e.ls.length - kk.toNat := by rw [hc.ls, List.length_drop]
      have hw3 : IntKind.wrap .i64 ((i.e.ls.length : Int) - (j.e.ls.length : Int)) = ((kk.toNat : Nat) : Int) := by
        rw [wrap_i64 (by omega) (by omega)]; omega
      obtain ⟨dt', g3, e3, q3, hd3, s3⟩ := s1097 W2.row W2.tl.rd (by omega) W.ta i.e.a0 dupR (kk.toNat : Int)
      have e3 : R fn1097 [.ptr w 0 0, .int .i64 i.e.a0, .str [42], .int .i64 (kk.toNat : Int)] g2 = some (.tup [], g3) := e3
      simp only [bs, fap74_1, fap31_4, l5, lens28 j.e.hld, dBin_sub, hw3]
      refine Wp.step e3 ?_
      have W3 := W2.chg W2.row (by decide) (by decide) (by decide) s3 q3 (.inl hd3) (addT_asc W.ta _ _ _)
      refine .some (.inr ⟨g3, j, kk.toNat, dt', _, _, _, rfl, by have := s3.1; have := s2.1; omega, hsm s3 h2b, by unfold tkO; rw [if_neg hle2, if_neg hgt, if_pos hlt2, hK, if_neg hk1], hc, (s3.2 z (Ne.symm hwz)).trans hz2, W3⟩)
  · intro hlt2
    have hlt2 : ¬ i.e.a2 < m := by simpa [-Option.bind_some] using hlt2
    have ha : addT ts i.e.a0 dupR ((0 : Nat) : Int) = ts := by simp [-Option.bind_some, addT]
    refine .some (.inr ⟨g1, i, 0, dt, _, _, _, rfl, by omega, h1b, by unfold tkO; rw [if_neg hle2, if_neg hgt, if_neg hlt2], ⟨rfl, rfl, rfl, by omega, rfl, rfl, rfl, rfl, rfl, by simp [-Option.bind_some], rfl⟩, hz, by rw [ha]; exact W1⟩)
  rintro _ (⟨g2, a, b, c, rfl, hl2, h2b, hO⟩ | ⟨g2, j, k, dt', a, b, c, rfl, hl2, h2b, hO, hc, hz2, W2⟩)
  · simp only [unblk_ret, toEnd_ret, exEnd_ret, nth_zero, bs, mkRes_one]
    refine .some ⟨false, rfl, by show z ≤ g2.length; omega, h2b, ?_⟩
    rw [hO]
  have lJ : dLoad tab g2 ty1007 (.ptr w 0 (0 + 0 + 0)) = some dm := by rw [ldp1007, row_of W2.row]; rfl
  have hal := addT_len ts i.e.a0 dupR (k : Nat)
  simp only [unblk_nrm, toEnd_nrm, nth_zero, bs, fap1009_0, lJ, Option.bind_assoc]
  refine wpConv ?_ (mark_wp W2 hlm i.e.a0 i.e.a1 i.e.a3 hz2 (f := fun g' =>
    (dLoad tab g' ty9 (.ptr z 0 (0 + 0))).bind fun t113 =>
    (dLoad tab g' ty28 (.ptr z 0 (0 + 1 + 4))).bind fun t116 =>
    (dLenT tab ty28 t116).bind fun t117 =>
    (R fn1097 [.ptr w 0 0, .int .i64 i.e.a0, t113, t117] g').bind fun p118 =>
    (dLoad tab p118.2 ty9 (.ptr z 0 (0 + 0))).bind fun t120 =>
    (dBin tab .eql ty9 t120 (.str [])).bind fun t121 =>
    (dIf t121
      ((dFieldAddr tab ty74 1 (.ptr z 0 0)).bind fun t122 =>
    (dLoad tab p118.2 ty31 t122).bind fun t123 =>
    (some ((.ptr p118.2.length 0 0 : D), dNew p118.2 ty31 10 [[.int .i64 0, .int .i64 0, .int .i64 0, .int .i64 0, .nils, .int .i64 0, .int .i64 0, .str [], .str [], .nils]])).bind fun p14 =>
    ((dStore tab p14.2 ty31 p14.1 t123).bind fun h' => some ((.und : D), h')).bind fun p903 =>
    (dFieldAddr tab ty31 4 p14.1).bind fun t124 =>
    (dLoad tab p903.2 ty28 t124).bind fun t125 =>
    (R fn1008 [t125] p903.2).bind fun p126 =>
    (dFieldAddr tab ty31 9 p14.1).bind fun t127 =>
    (dLoad tab p126.2 ty29 t127).bind fun t128 =>
    (R fn1009 [t128] p126.2).bind fun p129 =>
    (dFieldAddr tab ty31 4 p14.1).bind fun t130 =>
    chk (dLoad tab p903.2 ty29 t127 = some t128)
    (((dStore tab p129.2 ty28 t130 p126.1).bind fun h' => some ((.und : D), h')).bind fun p907 =>
    (dFieldAddr tab ty31 9 p14.1).bind fun t131 =>
    ((dStore tab p907.2 ty29 t131 p129.1).bind fun h' => some ((.und : D), h')).bind fun p909_1 =>
    (dFieldAddr tab ty1073 1 (.ptr w 0 0)).bind fun t135 =>
    (dLoad tab p909_1.2 ty40 t135).bind fun t136 =>
    (dLoad tab p909_1.2 ty31 p14.1).bind fun t137 =>
    (pLitF tab ty40 1 [0] [t137]).bind fun t138 =>
    (dAppend tab p909_1.2 ty40 ty40 t136 t138).bind fun p139 =>
    (dFieldAddr tab ty1073 1 (.ptr w 0 0)).bind fun t141 =>
    ((dStore tab p139.2 ty40 t141 p139.1).bind fun h' => some ((.und : D), h')).bind fun p910 =>
    some (Ex.nrm, [p14.1], p910.2)))
      (some (Ex.nrm, [D.any], p118.2))).bind fun r_2 => toEnd r_2.1 (some (D.bool true, r_2.2.2)) fun x => exEnd x (some (D.bool false, r_2.2.2))) (E := fun r x => exEnd x (some (D.bool false, r.2.2))) ?_)
  · simp only [bs, Option.bind_assoc, nilCheck_ptr, fap1073_0, fap1073_1, fap1009_0, fap74_0, fap74_1, fap31_4, fap31_9, Nat.zero_add, Nat.add_zero, mkRes_one]
  · intro g3 dm' W3 hz3 hl3 h3b
    have r0 : dLoad tab g3 ty9 (.ptr z 0 (0 + 0)) = some (.str j.r) := by rw [ldp9, row_of hz3]; rfl
    have r4 : dLoad tab g3 ty28 (.ptr z 0 (0 + 1 + 4)) = some j.e.ld := by rw [ldp28, row_of hz3]; rfl
    obtain ⟨dt2, g4, e4, q4, hd4, s4⟩ := s1097 W3.row W3.tl.rd (by omega) W3.ta i.e.a0 j.r (j.e.ls.length : Int)
    have W4 := W3.chg W3.row (by decide) (by decide) (by decide) s4 q4 (.inl hd4) (addT_asc W3.ta _ _ _)
    have hwz : w ≠ z := row_ne W3.row hz3 (by decide)
    have hz4 := (s4.2 z (Ne.symm hwz)).trans hz3
    have r5 : dLoad tab g4 ty9 (.ptr z 0 (0 + 0)) = some (.str j.r) := by rw [ldp9, row_of hz4]; rfl
    have hjl : j.e.ls.length ≤ i.e.ls.length := by rw [hc.ls, List.length_drop]; omega
    have hjf : j.e.fs.length ≤ 1000 := by rw [hc.fs]; exact hf
    have h4b : ∀ q, q < n0 → g4[q]? = g[q]? := fun q hq => (s4.2 q (by omega)).trans ((h3b q hq).trans (h2b q hq))
    have hl4 : g.length ≤ g4.length := by have := s4.1; omega
    simp only [r0, r4, lens28 j.e.hld, e4, r5, bs, dBin_seql]
    refine Wp.join (P := fun r => ∃ (g5 : Hp) (a de' : D) (evs' : List (Ev × D)), r = (.nrm, [a], g5) ∧ g.length ≤ g5.length ∧ (∀ q, q < n0 → g5[q]? = g[q]?) ∧ WkI n0 w g5 (setM ms ⟨i.e.a0, i.e.a1, i.e.a3⟩) (addT (addT ts i.e.a0 dupR (k : Nat)) i.e.a0 j.r j.e.ls.length) evs' dm' dt2 de' ∧ if i.r = [] then ∃ d hd x, evs' = evs ++ [(evLd j.e d hd, x)] else evs' = evs) ?_ ?_ ?_
    · intro hr
      have hr : i.r = [] := by rw [← hc.r]; simpa [-Option.bind_some] using hr
      refine ev_wp W4 hle hz4 (by omega) hjf (f := fun p h => some (Ex.nrm, [p], h)) fun g5 p de' d hd x W5 hl5 h5b => ?_
      exact .some ⟨g5, p, de', _, rfl, by omega, fun q hq => (h5b q hq).trans (h4b q hq), W5, by rw [if_pos hr]; exact ⟨d, hd, x, rfl⟩⟩
    · intro hr
      have hr : ¬ i.r = [] := by rw [← hc.r]; simpa [-Option.bind_some] using hr
      exact .some ⟨g4, _, de, evs, rfl, hl4, h4b, W4, by rw [if_neg hr]⟩
    rintro _ ⟨g5, a', de', evs', rfl, hl5, h5b, W5, hev⟩
    simp only [toEnd_nrm]
    refine .some ⟨true, rfl, by show z ≤ g5.length; omega, h5b, ?_⟩
    rw [hO]
    rw [hc.r] at W5
    exact ⟨rfl, j, dm', dt2, de', evs', hc, W5, hev⟩
/-- The same place, lines and fields. -/
structure EvQ (a b : Ev) : Prop where
  a0 : a.a0 = b.a0
  a1 : a.a1 = b.a1
  a2 : a.a2 = b.a2
  a3 : a.a3 = b.a3
  a5 : a.a5 = b.a5
  a6 : a.a6 = b.a6
  s7 : a.s7 = b.s7
  s8 : a.s8 = b.s8
  ls : a.ls = b.ls
  fs : a.fs = b.fs
/-- Marks and tallies behind items, or a gap. -/
def apS : List Mrk → List Tal → List It → Option (List Mrk × List Tal)
  | ms, ts, [] => some (ms, ts)
  | ms, ts, i :: r => match tkO (markOf ms i.e.a0 i.e.a1) i with
    | none => none
    | some none => apS ms (addT ts i.e.a0 dupR i.e.ls.length) r
    | some (some k) => apS (setM ms ⟨i.e.a0, i.e.a1, i.e.a3⟩) (addT (addT ts i.e.a0 dupR (k : Nat)) i.e.a0 i.r ((i.e.ls.length - k : Nat) : Int)) r
/-- The events that are new. -/
def apE : List Mrk → List It → List Ev → Prop
  | ms, [], es => es = []
  | ms, i :: r, es => match tkO (markOf ms i.e.a0 i.e.a1) i with
    | none => True
    | some none => apE ms r es
    | some (some k) => ∃ j, CutOf i (markOf ms i.e.a0 i.e.a1) k j ∧ if i.r = [] then ∃ e es', es = e :: es' ∧ EvQ e j.e ∧ apE (setM ms ⟨i.e.a0, i.e.a1, i.e.a3⟩) r es' else apE (setM ms ⟨i.e.a0, i.e.a1, i.e.a3⟩) r es
theorem apS_cons (ms : List Mrk) (ts : List Tal) (i : It) (r : List It) : apS ms ts (i :: r) = match tkO (markOf ms i.e.a0 i.e.a1) i with
    | none => none
    | some none => apS ms (addT ts i.e.a0 dupR i.e.ls.length) r
    | some (some k) => apS (setM ms ⟨i.e.a0, i.e.a1, i.e.a3⟩) (addT (addT ts i.e.a0 dupR (k : Nat)) i.e.a0 i.r ((i.e.ls.length - k : Nat) : Int)) r := rfl
theorem frz_mk {h : Hp} {n0 n1 n : Nat} {l : List Mrk} {d : D} (hd : MkD h n1 l d) (hn : n0 ≤ n1) : SlOf 3 mrkr l (frz n0 h (n + 1) d) := by
  rcases hd with ⟨rfl, rfl | rfl⟩ | ⟨ob, h1, rfl, h3⟩
  · exact .nils _ _
  · exact .inr ⟨true, rfl⟩
  · have ow : Own h n1 ty1006 3 (l.map mrkr) (.msl 3 ob 0 l.length) := .inr ⟨ob, h1, by simp [-Option.bind_some], h3⟩
    exact own_sl ow hn (fun a _ => mrkr_frz _ h _ a)
theorem frz_tl {h : Hp} {n0 n1 n : Nat} {l : List Tal} {d : D} (hd : TlD h n1 l d) (hn : n0 ≤ n1) : SlOf 3 talr l (frz n0 h (n + 1) d) := by
  rcases hd with hd | ⟨ob, h1, rfl, h3⟩
  · rw [slof_frz hd (fun a _ => talr_frz _ h _ a)]; exact hd
  · have ow : Own h n1 ty106 3 (l.map talr) (.msl 3 ob 0 l.length) := .inr ⟨ob, h1, by simp [-Option.bind_some], h3⟩
    exact own_sl ow hn (fun a _ => talr_frz _ h _ a)
theorem evs_of {g : Hp} {n0 n1 : Nat} (hn : n0 ≤ n1) : ∀ (evs : List (Ev × D)), (∀ p ∈ evs, LvF g n1 p.1.fs p.2) → ∃ l : List Ev, l.map evr = (evs.map evl).map (fun row => row.map (frz n0 g 2)) ∧ l.length = evs.length ∧ ∀ (k : Nat) e p, l[k]? = some e → evs[k]? = some p → EvQ e p.1
  | [], _ => ⟨[], rfl, rfl, by simp [-Option.bind_some]⟩
  | p :: r, hp => by
    obtain ⟨l, h1, h2, h3⟩ := evs_of hn r fun q hq => hp q (by simp [-Option.bind_some, hq])
    have hsl := (hp p (by simp [-Option.bind_some])).frz (n := 1) hn
    have hf := slof_frz (n0 := n0) (h := g) (n := 1) p.1.hld (fun a _ => linr_frz _ g _ a)
    refine ⟨{ p.1 with fd := frz n0 g 2 p.2, hfd := hsl } :: l, ?_, by simp [-Option.bind_some, h2], fun k e q he hq => ?_⟩
    · simp only [List.map_cons, h1]
      congr 1
      simp only [evl, List.map_cons, List.map_nil, frz_int, frz_str, hf]
      rfl
    · cases k with
      | zero =>
        simp [-Option.bind_some] at he hq
        subst he; subst hq
        exact ⟨rfl, rfl, rfl, rfl, rfl, rfl, rfl, rfl, rfl, rfl⟩
      | succ k => exact h3 k e q (by simpa [-Option.bind_some] using he) (by simpa [-Option.bind_some] using hq)
/-- Events as they are kept while a batch is applied, against those at its end. -/
def EvsQ (es : List Ev) (evs : List (Ev × D)) : Prop := es.length = evs.length ∧ ∀ (k : Nat) e p, es[k]? = some e → evs[k]? = some p → EvQ e p.1
/-- What applying a batch gives. -/
def ApPost (ms : List Mrk) (ts : List Tal) (dm dt : D) (its : List It) (x : D) : Prop :=
  match apS ms ts its with
  | none => x = .tup [.agg [dm, dt], .nils, .int .i64 23]
  | some (ms', ts') => ∃ dm' dt' de es, x = .tup [.agg [dm', dt'], de, .int .i64 0] ∧ SlOf 3 mrkr ms' dm' ∧ SlOf 3 talr ts' dt' ∧ SlOf 10 evr es de ∧ apE ms its es ∧ es.length ≤ its.length
theorem s1089 {host : Int} {b : Bat} (hb : BatOK host b) {ms : List Mrk} {ts : List Tal} {dm0 dt0 : D} (h : Hp) (hm : SlOf 3 mrkr ms dm0) (ht : SlOf 3 talr ts dt0) (hma : MAsc ms) (hta : TAsc ts) (hml : ms.length ≤ 10000) (htl : ts.length ≤ 10000) :
    ∃ x, R fn1089 [.agg [dm0, dt0], .agg (batr b)] h = some (x, h) ∧ ApPost ms ts dm0 dt0 b.its x := by
  suffices Wp (R fn1089 [.agg [dm0, dt0], .agg (batr b)] h) (fun p => p.2 = h ∧ ApPost ms ts dm0 dt0 b.its p.1) by
    obtain ⟨⟨x, h'⟩, h1, rfl, h2⟩ := this
    exact ⟨x, h1, h2⟩
  rw [e1089]
  have hbn := hb.n3
  have hbl : ∀ g : Hp, dLoad tab g ty1064 (.fptr (batr b)) = some (.agg (batr b)) := fun g => id rfl
  have hp0 : (dNew h ty1009 2 [[.nils, .nils]])[h.length]? = some (.row ty1009 2 [[.nils, .nils]]) := dNew_get _ _ _ _
  have hpl : (dNew h ty1009 2 [[.nils, .nils]]).length = h.length + 1 := by simp [-Option.bind_some, dNew]
  have hpo : ∀ q, q < h.length → (dNew h ty1009 2 [[.nils, .nils]])[q]? = h[q]? := fun q hq => dNew_old _ _ _ _ hq
  generalize hP4 : ((D.ptr h.length 0 0, dNew h ty1009 2 [[.nils, .nils]]) : D × Hp) = p4
  have hp1 : p4.1 = .ptr h.length 0 0 := by rw [← hP4]
  have hp2 : p4.2 = dNew h ty1009 2 [[.nils, .nils]] := by rw [← hP4]
  generalize dNew h ty1009 2 [[.nils, .nils]] = g0 at hp0 hpl hpo hp2
  have hck := s1094 host b g0 hb
  obtain ⟨dm, g1, e1, l1, b1, d1⟩ := u1095 ms dm0 g0 hm (by omega)
  obtain ⟨dt, g2, e2, l2, b2, d2⟩ := u79 ts dt0 g1 ht (by omega)
  have hmk : MkD g2 (h.length + 1) ms dm := by
    rcases d1 with h | ⟨ob, a, b, c⟩
    · exact .inl h
    · exact .inr ⟨ob, by omega, b, (b2 ob (List.getElem?_eq_some_iff.1 c).1).trans c⟩
  have htd : TlD g2 (h.length + 1) ts dt := by
    rcases d2 with ⟨rfl, rfl | rfl⟩ | ⟨ob, a, b, c⟩
    · exact .inl (.nils _ _)
    · exact .inl (.inr ⟨true, rfl⟩)
    · exact .inr ⟨ob, by omega, b, c⟩
  have f0 : ∀ g : Hp, dFieldAddr tab ty1009 0 (.fptr [dm0, dt0]) = some (.fptr [dm0, dt0]) := fun g => id rfl
  have f1 : dFieldAddr tab ty1009 1 (.fptr [dm0, dt0]) = some (.fptr [dt0]) := id rfl
  have k0 : ∀ g : Hp, dLoad tab g ty1007 (.fptr [dm0, dt0]) = some dm0 := fun g => id rfl
  have k1 : ∀ g : Hp, dLoad tab g ty58 (.fptr [dt0]) = some dt0 := fun g => id rfl
  have k2 : ∀ g : Hp, dLoad tab g ty1009 (.fptr [dm0, dt0]) = some (.agg [dm0, dt0]) := fun g => id rfl
  have q2 : dFieldAddr tab ty1064 2 (.fptr (batr b)) = some (.fptr [b.d]) := id rfl
  have hbd : dBuild tab ty1009 [0, 1] [dm, dt] = some (.agg [dm, dt]) := bd1009_0_1 dm dt hmk.one htd.one
  simp only [F1089, pBoxF_agg, bs, hP4, hp2, hbl, hck, dBin_neq, ne_eq, not_true, decide_false, dIf_bool, Bool.false_eq_true, if_false, f0 h, k0, e1, f1, k1, e2, hbd, bd1073_0, q2, Option.bind_assoc]
  rw [wBox_agg ty1073 3 g2 [dm, dt, .nils] rfl (by omega)]
  have hold : ∀ q, q < g2.length → (dNew g2 ty1073 3 [[dm, dt, .nils]])[q]? = g2[q]? := fun q hq => dNew_old _ _ _ _ hq
  have hw : (dNew g2 ty1073 3 [[dm, dt, .nils]])[g2.length]? = some (.row ty1073 3 [[dm, dt, .nils]]) := dNew_get _ _ _ _
  have hwl : (dNew g2 ty1073 3 [[dm, dt, .nils]]).length = g2.length + 1 := by simp [-Option.bind_some, dNew]
  have W0 : WkI (h.length + 1) g2.length (dNew g2 ty1073 3 [[dm, dt, .nils]]) ms ts [] dm dt .nils := by
    have lt : ∀ {q : Nat} {ob : Ob}, g2[q]? = some ob → q < g2.length := fun hq => (List.getElem?_eq_some_iff.1 hq).1
    refine ⟨by omega, by omega, hw, ?_, ?_, Own.nils _ _ _ _, by simp [-Option.bind_some], hma, hta⟩
    · exact hmk.imp id fun ⟨ob, a, b, c⟩ => ⟨ob, a, b, (hold ob (lt c)).trans c⟩
    · exact htd.imp id fun ⟨ob, a, b, c⟩ => ⟨ob, a, b, (hold ob (lt c)).trans c⟩
  have hb3 : ∀ q, q < h.length + 1 → (dNew g2 ty1073 3 [[dm, dt, .nils]])[q]? = g0[q]? := fun q hq => (hold q (by omega)).trans ((b2 q (by omega)).trans (b1 q (by omega)))
  generalize dNew g2 ty1073 3 [[dm, dt, .nils]] = g3 at W0 hb3
  generalize g2.length = w at W0
  clear hold hw hwl hmk htd d1 d2 hbd
  simp only [bs, ld113, lens113 b.hd]
  refine Wp.chk trivial ?_
  refine Wp.loop (fun k ds g => ∃ (n : Nat) (c a1 a2 : D) (ms' : List Mrk) (ts' : List Tal) (evs : List (Ev × D)) (dm' dt' de : D), ds = [.nils, .int .i64 0, c, .int .i64 n, a1, a2] ∧ k + n = b.its.length ∧ WkI (h.length + 1) w g ms' ts' evs dm' dt' de ∧ (∀ q, q < h.length + 1 → g[q]? = g0[q]?) ∧
      ms'.length ≤ ms.length + n ∧ ts'.length ≤ ts.length + 2 * n ∧ evs.length ≤ n ∧ apS ms ts b.its = apS ms' ts' (b.its.drop n) ∧ ∀ es es', EvsQ es evs → apE ms' (b.its.drop n) es' → apE ms b.its (es ++ es'))
    (fun r => (r.1 = .ret ∧ ∃ c a0 a1 a2, r.2.1 = [.nils, .int .i64 23, c, a0, a1, a2] ∧ apS ms ts b.its = none ∧ h.length ≤ r.2.2.length ∧ (∀ q, q < h.length → r.2.2[q]? = h[q]?) ∧ r.2.2[h.length]? = some (.row ty1009 2 [[dm0, dt0]])) ∨
      (r.1 = .ext 0 ∧ ∃ (c a0 a1 a2 : D) (ms' : List Mrk) (ts' : List Tal) (evs : List (Ev × D)) (dm' dt' de : D), r.2.1 = [.nils, .int .i64 0, c, a0, a1, a2] ∧ WkI (h.length + 1) w r.2.2 ms' ts' evs dm' dt' de ∧ (∀ q, q < h.length + 1 → r.2.2[q]? = g0[q]?) ∧ evs.length ≤ b.its.length ∧ apS ms ts b.its = some (ms', ts') ∧ ∀ es, EvsQ es evs → apE ms b.its es))
    b.its.length ⟨0, _, _, _, ms, ts, [], dm, dt, .nils, rfl, rfl, W0, hb3, by omega, by omega, by simp [-Option.bind_some], rfl, fun es es' hq he => by
      have : es = [] := List.eq_nil_of_length_eq_zero (by simpa [-Option.bind_some] using hq.1)
      subst this
      exact he⟩ ?_ ?_
  · rintro k ds g ⟨n, c, a1, a2, ms', ts', evs, dm', dt', de, rfl, hk, W, hbb, hlm, hlt, hle, hap, hev⟩
    simp only [F1089_L0, nth_zero, nth_succ, bs, Option.bind_assoc, dBin_lss]
    refine Wp.dif ?_ ?_
    · intro h0
      have h0 : n < b.its.length := by have : (n : Int) < b.its.length := by simpa [-Option.bind_some] using h0
                                       omega
      obtain ⟨i, hi⟩ : ∃ i, b.its[n]? = some i := ⟨_, List.getElem?_eq_getElem h0⟩
      have hdr : b.its.drop n = i :: b.its.drop (n + 1) := by
        rw [List.drop_eq_getElem_cons h0]
        have := (List.getElem?_eq_some_iff.1 hi).2
        rw [this]
      have hB := hb.it i (List.mem_of_getElem? hi)
      have hn6 := hB.n6
      have hf4 := hB.fs
      have hwn : IntKind.wrap .i64 ((n : Int) + 1) = ((n + 1 : Nat) : Int) := by
        rw [wrap_i64 (by omega) (by omega)]; omega
      have hii : dIndexAddr tab ty113 b.d (.int .i64 (n : Int)) = some (.fptr (itr i)) := by rw [ixs113 b.hd]; simp [-Option.bind_some, hi]
      obtain ⟨bb, g', et, hl', hb', hp⟩ := s1096 W (by omega) (by omega) (by omega) i (by omega) (by omega)
      simp only [hii, ldIt, boxIt, bs]
      refine Wp.step et ?_
      simp only [bs, dUn_not]
      rw [hdr] at hap hev
      unfold TkPost at hp
      rw [apS_cons] at hap
      cases hO : tkO (markOf ms' i.e.a0 i.e.a1) i with
      | none =>
        rw [hO] at hp hap
        subst hp
        simp only [Bool.not_false, dIf_bool, if_true, k2, hp1, bs, Option.bind_assoc]
        have hq0 : g'[h.length]? = some (.row ty1009 2 [[.nils, .nils]]) := (hb' _ (by omega)).trans ((hbb _ (by omega)).trans hp0)
        have hok : (D.agg [dm0, dt0]).okv = true := by
          have o1 := slof_one hm
          have o2 := slof_one ht
          clear f0 f1 k0 k1 k2 e1 e2 hm ht
          cases dm0 <;> first | (cases dt0 <;> first | rfl | (simp [-Option.bind_some, D.one] at o2)) | (simp [-Option.bind_some, D.one] at o1)
        refine wst1009 hq0 (by rfl) (by rfl) (by simp [-Option.bind_some]) hok fun g4 q4 s4 => ?_
        replace q4 : g4[h.length]? = some (.row ty1009 2 [[dm0, dt0]]) := q4
        try simp only [bs]
        exact .some (.inr ⟨by simp [-Option.bind_some], .inl ⟨rfl, _, _, _, _, rfl, hap, by have := s4.1; have := W.len; show h.length ≤ g4.length; omega, fun q hq => (s4.2 q (by omega)).trans ((hb' q (by omega)).trans ((hbb q (by omega)).trans (hpo q hq))), q4⟩⟩)
      | some o =>
        have hbt : bb = true := by
          rw [hO] at hp
          cases o with
          | none => exact hp.1
          | some k => exact hp.1
        subst hbt
        simp only [Bool.not_true, dIf_bool, Bool.false_eq_true, if_false, dBin_add, bs, hwn]
        cases o with
        | none =>
          rw [hO] at hp hap
          obtain ⟨_, dt2, W2⟩ := hp
          have hal := addT_len ts' i.e.a0 dupR i.e.ls.length
          refine .some (.inl ⟨rfl, k - 1, by omega, n + 1, _, _, _, ms', _, evs, dm', dt2, de, rfl, by omega, W2, fun q hq => (hb' q hq).trans (hbb q hq), by omega, by omega, by omega, hap, fun es es' hq he => hev es es' hq ?_⟩)
          unfold apE
          rw [hO]
          exact he
        | some kk =>
          rw [hO] at hp hap
          obtain ⟨_, j, dm2, dt2, de2, evs2, hc, W2, he2⟩ := hp
          have hjl : j.e.ls.length = i.e.ls.length - kk := by rw [hc.ls, List.length_drop]
          rw [hjl] at W2
          have hal := addT_len ts' i.e.a0 dupR (kk : Nat)
          have hal2 := addT_len (addT ts' i.e.a0 dupR (kk : Nat)) i.e.a0 i.r ((i.e.ls.length - kk : Nat) : Int)
          have hsl := setM_len ms' ⟨i.e.a0, i.e.a1, i.e.a3⟩
          by_cases hr : i.r = []
          · rw [if_pos hr] at he2
            obtain ⟨d, hd, x, rfl⟩ := he2
            refine .some (.inl ⟨rfl, k - 1, by omega, n + 1, _, _, _, _, _, _, dm2, dt2, de2, rfl, by omega, W2, fun q hq => (hb' q hq).trans (hbb q hq), by omega, by omega, by simp [-Option.bind_some]; omega, hap, fun es es' hq he => ?_⟩)
            obtain ⟨hql, hqe⟩ := hq
            simp only [List.length_append, List.length_cons, List.length_nil] at hql
            have hes : es ≠ [] := by rintro rfl; simp [-Option.bind_some] at hql
            obtain ⟨es0, e, rfl⟩ : ∃ es0 e, es = es0 ++ [e] := ⟨es.dropLast, es.getLast hes, (List.dropLast_concat_getLast hes).symm⟩
            simp only [List.length_append, List.length_cons, List.length_nil] at hql
            have hlen0 : es0.length = evs.length := by omega
            rw [List.append_assoc]
            refine hev es0 _ ⟨hlen0, fun k a p ha hp => ?_⟩ ?_
            · have h1 := (List.getElem?_eq_some_iff.1 ha).1
              have h2 := (List.getElem?_eq_some_iff.1 hp).1
              exact hqe k a p (by rw [List.getElem?_append_left h1]; exact ha) (by rw [List.getElem?_append_left h2]; exact hp)
            · unfold apE
              rw [hO]
              refine ⟨j, hc, ?_⟩
              rw [if_pos hr]
              have := hqe evs.length e (evLd j.e d hd, x) (by rw [List.getElem?_append_right (by omega), hlen0]; simp [-Option.bind_some]) (by rw [List.getElem?_append_right (by omega)]; simp [-Option.bind_some])
              exact ⟨e, es', rfl, ⟨this.a0, this.a1, this.a2, this.a3, this.a5, this.a6, this.s7, this.s8, this.ls, this.fs⟩, he⟩
          · rw [if_neg hr] at he2
            subst he2
            refine .some (.inl ⟨rfl, k - 1, by omega, n + 1, _, _, _, _, _, _, dm2, dt2, de2, rfl, by omega, W2, fun q hq => (hb' q hq).trans (hbb q hq), by omega, by omega, by omega, hap, fun es es' hq he => hev es es' hq ?_⟩)
            unfold apE
            rw [hO]
            refine ⟨j, hc, ?_⟩
            rw [if_neg hr]
            exact he
    · intro h0
      have h0 : n = b.its.length := by have : ¬ (n : Int) < b.its.length := by simpa [-Option.bind_some] using h0
                                       omega
      subst h0
      rw [List.drop_length] at hap hev
      refine .some (.inr ⟨by simp [-Option.bind_some], .inr ⟨rfl, _, _, _, _, ms', ts', evs, dm', dt', de, rfl, W, hbb, hle, hap, fun es hq => ?_⟩⟩)
      have := hev es [] hq rfl
      rwa [List.append_nil] at this
  · rintro ⟨ex, ds, g⟩ (⟨q1, c, a0, a1, a2, q2', hap, hl, hbb, hq⟩ | ⟨q1, c, a0, a1, a2, ms', ts', evs, dm', dt', de, q2', W, hbb, hle, hap, hev⟩)
    · simp only at q1 q2' hl hbb hq
      subst q1; subst q2'
      have lq : dLoad tab g ty1009 (.ptr h.length 0 0) = some (.agg [dm0, dt0]) := by rw [ldp1009, row_of hq]; rfl
      simp only [unblk_ret, toEnd_ret, exEnd_ret, nth_zero, nth_succ, bs, hp1, lq, mkRes_two]
      have hfz : frz h.length g 4 (.tup [.agg [dm0, dt0], .nils, .int .i64 23]) = .tup [.agg [dm0, dt0], .nils, .int .i64 23] := by
        have z1 := slof_frz (n0 := h.length) (h := g) (n := 1) hm (fun a _ => mrkr_frz _ g _ a)
        have z2 := slof_frz (n0 := h.length) (h := g) (n := 1) ht (fun a _ => talr_frz _ g _ a)
        simp only [frz_tup, frz_agg, List.map_cons, List.map_nil, z1, z2, frz_nils, frz_int]
      rw [scope_eq hfz (.tup _ fun d hd => by
        simp [-Option.bind_some] at hd
        rcases hd with rfl | rfl | rfl
        · refine .agg _ fun d hd => ?_
          simp [-Option.bind_some] at hd
          rcases hd with rfl | rfl
          · exact slof_ok hm fun a _ => mrkr_ok _ a
          · exact slof_ok ht fun a _ => talr_ok _ a
        · constructor
        · constructor) hl hbb]
      refine .some ⟨rfl, ?_⟩
      unfold ApPost
      rw [hap]
    · simp only at q1 q2' W hbb
      subst q1; subst q2'
      have w1 : dLoad tab g ty1009 (.ptr w 0 (0 + 0)) = some (.agg [dm', dt']) := by rw [ldp1009, row_of W.row]; rfl
      have w2 : dLoad tab g ty40 (.ptr w 0 (0 + 2)) = some de := by rw [ldp40, row_of W.row]; rfl
      have hq0 : g[h.length]? = some (.row ty1009 2 [[.nils, .nils]]) := (hbb _ (by omega)).trans hp0
      have hok : (D.agg [dm', dt']).okv = true := by
        have o1 := W.mr.one
        have o2 := W.tl.one
        clear w1 W
        cases dm' <;> first | (cases dt' <;> first | rfl | (simp [-Option.bind_some, D.one] at o2)) | (simp [-Option.bind_some, D.one] at o1)
      have hwn := W.wn
      simp only [unblk_self, toEnd_nrm, nth_zero, nth_succ, bs, hp1, nilCheck_ptr, fap1073_0, fap1073_1, w1, w2, Option.bind_assoc]
      refine wst1009 hq0 (by rfl) (by rfl) (by simp [-Option.bind_some]) hok fun g4 q4 s4 => ?_
      replace q4 : g4[h.length]? = some (.row ty1009 2 [[dm', dt']]) := q4
      have w3 : dLoad tab g4 ty40 (.ptr w 0 (0 + 2)) = some de := by rw [ldp40, row_of ((s4.2 w (by omega)).trans W.row)]; rfl
      have lq : dLoad tab g4 ty1009 (.ptr h.length 0 0) = some (.agg [dm', dt']) := by rw [ldp1009, row_of q4]; rfl
      simp only [w3, bs]
      refine Wp.chk trivial ?_
      simp only [lq, bs, mkRes_two]
      have W4 := W.chg0 hq0 (by decide) (by decide) (by decide) (by decide) s4 ((s4.2 w (by omega)).trans W.row)
      obtain ⟨l, e1', e2', e3'⟩ := evs_of (g := g4) (n0 := h.length) (Nat.le_succ _) evs W4.fs
      have hsl : SlOf 10 evr l (frz h.length g4 3 de) := by
        rcases W4.ev with ⟨hx, hr⟩ | ⟨ob, hob, hx, hgo⟩
        · have : evs = [] := by simpa [-Option.bind_some] using hr
          subst this
          have : l = [] := List.eq_nil_of_length_eq_zero (by simpa [-Option.bind_some] using e2')
          subst this
          rw [hx]
          exact .nils _ _
        · right
          refine ⟨false, ?_⟩
          rw [hx, frz_msl (by omega) hgo]
          simp only [List.drop_zero, List.take_length, e1']
      have z1 := frz_mk (n0 := h.length) (n := 1) W4.mr (Nat.le_succ _)
      have z2 := frz_tl (n0 := h.length) (n := 1) W4.tl (Nat.le_succ _)
      have hfz : frz h.length g4 4 (.tup [.agg [dm', dt'], de, .int .i64 0]) = .tup [.agg [frz h.length g4 2 dm', frz h.length g4 2 dt'], frz h.length g4 3 de, .int .i64 0] := by
        simp only [frz_tup, frz_agg, List.map_cons, List.map_nil, frz_int]
      rw [scope_eq hfz (.tup _ fun d hd => by
        simp [-Option.bind_some] at hd
        rcases hd with rfl | rfl | rfl
        · refine .agg _ fun d hd => ?_
          simp [-Option.bind_some] at hd
          rcases hd with rfl | rfl
          · exact slof_ok z1 fun a _ => mrkr_ok _ a
          · exact slof_ok z2 fun a _ => talr_ok _ a
        · exact slof_ok hsl fun a _ => evr_ok _ a
        · constructor) (by have := s4.1; have := W.len; omega) (fun q hq => (s4.2 q (by omega)).trans ((hbb q (by omega)).trans (hpo q hq)))]
      refine .some ⟨rfl, ?_⟩
      unfold ApPost
      rw [hap]
      exact ⟨_, _, _, l, rfl, z1, z2, hsl, hev l ⟨e2', e3'⟩, by omega⟩
theorem kT_take (m : Tal) (l : List Tal) : ∀ x ∈ l.take (kT m l), kl x m := by
  intro x hx
  obtain ⟨i, hi⟩ := List.getElem?_of_mem hx
  have hlt := (List.getElem?_eq_some_iff.1 hi).1
  rw [List.length_take] at hlt
  rw [List.getElem?_take, if_pos (by omega)] at hi
  exact (cmpT_lt _ _).1 (kT_lt m l i x hi (by omega))
theorem no_key {a b : Tal} (h : kl a b) (h1 : a.h = b.h) (h2 : a.r = b.r) : False := by
  have := (cmpT_lt a b).2 h
  have := (cmpT_eq a b).2 ⟨h1, h2⟩
  omega
/-- Of a key that is in the list, the place. -/
theorem kT_has (key : Tal) (l : List Tal) (hs : TAsc l) (x : Tal) (hx : x ∈ l) (h1 : x.h = key.h) (h2 : x.r = key.r) : l[kT key l]? = some x := by
  have hx' : x ∈ l.drop (kT key l) := by
    rw [← List.take_append_drop (kT key l) l] at hx
    rcases List.mem_append.1 hx with h | h
    · exact (no_key (kT_take key l x h) h1 h2).elim
    · exact h
  obtain ⟨i, hi⟩ := List.getElem?_of_mem hx'
  rw [List.getElem?_drop] at hi
  rcases Nat.eq_zero_or_pos i with rfl | hi0
  · rw [Nat.add_zero] at hi; exact hi
  · exfalso
    have hl := (List.getElem?_eq_some_iff.1 hi).1
    have hg : l[kT key l]? = some (l[kT key l]'(by omega)) := List.getElem?_eq_getElem (by omega)
    have hlt : kl (l[kT key l]'(by omega)) x := by
      obtain ⟨g3, g4⟩ := List.getElem?_eq_some_iff.1 hi
      have := List.pairwise_iff_getElem.1 hs _ _ (show kT key l < l.length by omega) g3 (by omega)
      rw [g4] at this
      exact this
    have := kT_ge key l hs _ _ hg (Nat.le_refl _)
    have h3 : kl (l[kT key l]'(by omega)) key := by
      unfold kl at hlt ⊢
      rw [h1, h2] at hlt
      exact hlt
    have := (cmpT_lt _ _).2 h3
    omega
theorem countT_eq (l : List Tal) (hs : TAsc l) (h : Int) (r : Str) : (∃ x ∈ l, x.h = h ∧ x.r = r ∧ countT l h r = x.n ∧ l[kT ⟨h, r, 0⟩ l]? = some x) ∨ ((∀ x ∈ l, ¬ (x.h = h ∧ x.r = r)) ∧ countT l h r = 0 ∧ (∀ x, l[kT ⟨h, r, 0⟩ l]? = some x → ¬ cmpT x ⟨h, r, 0⟩ = 0)) := by
  by_cases hf : ∃ x ∈ l, x.h = h ∧ x.r = r
  · left
    obtain ⟨x, hx, h1, h2⟩ := hf
    have hg := kT_has ⟨h, r, 0⟩ l hs x hx h1 h2
    have hc : cmpT x ⟨h, r, 0⟩ = 0 := (cmpT_eq _ _).2 ⟨h1, h2⟩
    exact ⟨x, hx, h1, h2, by unfold countT; rw [hg]; simp [-Option.bind_some, hc], hg⟩
  · right
    have hn : ∀ x ∈ l, ¬ (x.h = h ∧ x.r = r) := fun x hx hk => hf ⟨x, hx, hk⟩
    have hno : ∀ x, l[kT ⟨h, r, 0⟩ l]? = some x → ¬ cmpT x ⟨h, r, 0⟩ = 0 := fun x hx hc => hn x (List.mem_of_getElem? hx) ((cmpT_eq _ _).1 hc)
    refine ⟨hn, ?_, hno⟩
    unfold countT
    cases hg : l[kT ⟨h, r, 0⟩ l]? with
    | none => rfl
    | some x => simp [-Option.bind_some, hno x hg]
theorem addT_mem (l : List Tal) (hs : TAsc l) (hst : Int) (rule : Str) (n : Int) (hn : ¬ n < 1) (x : Tal) : x ∈ addT l hst rule n ↔ x = ⟨hst, rule, IntKind.wrap .i64 (countT l hst rule + n)⟩ ∨ (x ∈ l ∧ ¬ (x.h = hst ∧ x.r = rule)) := by
  simp only [addT, if_neg hn]
  rcases countT_eq l hs hst rule with ⟨y, hy, h1, h2, h3, hg⟩ | ⟨hno, h3, hnc⟩
  · have hc : cmpT y ⟨hst, rule, 0⟩ = 0 := (cmpT_eq _ _).2 ⟨h1, h2⟩
    have ha : addK l hst rule n (kT ⟨hst, rule, 0⟩ l) = l.set (kT ⟨hst, rule, 0⟩ l) ⟨hst, rule, IntKind.wrap .i64 (countT l hst rule + n)⟩ := by
      unfold addK
      rw [hg, h3]
      simp [-Option.bind_some, hc, h1, h2]
    rw [ha]
    generalize hv : (⟨hst, rule, IntKind.wrap .i64 (countT l hst rule + n)⟩ : Tal) = v
    have hk : kT ⟨hst, rule, 0⟩ l < l.length := (List.getElem?_eq_some_iff.1 hg).1
    generalize kT ⟨hst, rule, 0⟩ l = k at hg hk
    constructor
    · intro hx
      obtain ⟨i, hi⟩ := List.getElem?_of_mem hx
      rw [List.getElem?_set] at hi
      split at hi
      · rename_i heq
        subst heq
        simp [-Option.bind_some, hk] at hi
        exact .inl hi.symm
      · rename_i hne
        have hxl := List.mem_of_getElem? hi
        refine .inr ⟨hxl, fun hkey => ?_⟩
        have hxy := tasc_key hs hxl hy (by rw [hkey.1, h1]) (by rw [hkey.2, h2])
        subst hxy
        obtain ⟨g1, g2⟩ := List.getElem?_eq_some_iff.1 hg
        obtain ⟨g3, g4⟩ := List.getElem?_eq_some_iff.1 hi
        rcases Nat.lt_or_gt_of_ne hne with hlt | hlt
        · have := List.pairwise_iff_getElem.1 hs _ _ g1 g3 hlt
          rw [g2, g4] at this; exact kl_irr _ this
        · have := List.pairwise_iff_getElem.1 hs _ _ g3 g1 hlt
          rw [g2, g4] at this; exact kl_irr _ this
    · rintro (rfl | ⟨hx, hkey⟩)
      · exact List.mem_iff_getElem?.2 ⟨k, by rw [List.getElem?_set_self hk]⟩
      · obtain ⟨i, hi⟩ := List.getElem?_of_mem hx
        refine List.mem_iff_getElem?.2 ⟨i, ?_⟩
        rw [List.getElem?_set_ne]
        · exact hi
        · rintro rfl
          rw [hg] at hi
          injection hi with hi
          subst hi
          exact hkey ⟨h1, h2⟩
  · have ha : addK l hst rule n (kT ⟨hst, rule, 0⟩ l) = l.take (kT ⟨hst, rule, 0⟩ l) ++ [⟨hst, rule, IntKind.wrap .i64 (countT l hst rule + n)⟩] ++ l.drop (kT ⟨hst, rule, 0⟩ l) := by
      unfold addK
      rw [h3]
      cases hg : l[kT ⟨hst, rule, 0⟩ l]? with
      | none => rfl
      | some y => simp only [if_neg (hnc y hg)]
    rw [ha]
    constructor
    · intro hx
      simp only [List.mem_append, List.mem_singleton] at hx
      rcases hx with (hx | hx) | hx
      · have := List.mem_of_mem_take hx
        exact .inr ⟨this, hno x this⟩
      · exact .inl hx
      · have := List.mem_of_mem_drop hx
        exact .inr ⟨this, hno x this⟩
    · rintro (rfl | ⟨hx, _⟩)
      · simp [-Option.bind_some]
      · rw [← List.take_append_drop (kT ⟨hst, rule, 0⟩ l) l] at hx
        rcases List.mem_append.1 hx with h | h
        · simp [-Option.bind_some, h]
        · simp [-Option.bind_some, h]
theorem countT_addT (l : List Tal) (hs : TAsc l) (hst : Int) (rule : Str) (n : Int) (h : Int) (r : Str) : countT (addT l hst rule n) h r = if hst = h ∧ rule = r ∧ ¬ n < 1 then IntKind.wrap .i64 (countT l hst rule + n) else countT l h r := by
  by_cases hn : n < 1
  · simp [-Option.bind_some, addT, hn]
  have ha := addT_asc hs hst rule n
  have hmem := addT_mem l hs hst rule n hn
  rcases countT_eq _ ha h r with ⟨x, hx, h1, h2, h3, _⟩ | ⟨h1, h2, _⟩
  · rw [h3]
    rcases (hmem x).1 hx with rfl | ⟨hx, hk⟩
    · rw [if_pos ⟨h1, h2, hn⟩]
    · rw [if_neg (fun hh => hk ⟨h1.trans hh.1.symm, h2.trans hh.2.1.symm⟩)]
      rcases countT_eq l hs h r with ⟨y, hy, k1, k2, k3, _⟩ | ⟨k1, k2, _⟩
      · rw [k3, tasc_key hs hx hy (by omega) (by rw [h2, k2])]
      · exact absurd ⟨h1, h2⟩ (k1 x hx)
  · rw [h2]
    have hm : ¬ (hst = h ∧ rule = r) := h1 _ ((hmem _).2 (.inl rfl))
    rw [if_neg (fun hh => hm ⟨hh.1, hh.2.1⟩)]
    rcases countT_eq l hs h r with ⟨y, hy, k1, k2, k3, _⟩ | ⟨k1, k2, _⟩
    · exact absurd ⟨k1, k2⟩ (h1 y ((hmem y).2 (.inr ⟨hy, fun hh => hm ⟨hh.1.symm.trans k1, hh.2.symm.trans k2⟩⟩)))
    · exact k2.symm
-- the part of a host
def fH (h : Int) (ms : List Mrk) : List Mrk := ms.filter fun m => decide (m.h = h)
def tH (h : Int) (ts : List Tal) : List Tal := ts.filter fun m => decide (m.h = h)
theorem fH_mem (h : Int) (ms : List Mrk) (x : Mrk) : x ∈ fH h ms ↔ x ∈ ms ∧ x.h = h := by simp [-Option.bind_some, fH]
theorem tH_mem (h : Int) (ms : List Tal) (x : Tal) : x ∈ tH h ms ↔ x ∈ ms ∧ x.h = h := by simp [-Option.bind_some, tH]
theorem fH_asc {h : Int} {ms : List Mrk} (hs : MAsc ms) : MAsc (fH h ms) := List.Pairwise.sublist List.filter_sublist hs
theorem tH_asc {h : Int} {ts : List Tal} (hs : TAsc ts) : TAsc (tH h ts) := List.Pairwise.sublist List.filter_sublist hs
theorem markOf_fH {ms : List Mrk} (hs : MAsc ms) (h f : Int) : markOf (fH h ms) h f = markOf ms h f := by
  rcases markOf_eq _ (fH_asc hs) h f with ⟨x, hx, h1, h2, h3⟩ | ⟨h1, h2⟩
  · rw [h3]
    rcases markOf_eq _ hs h f with ⟨y, hy, k1, k2, k3⟩ | ⟨k1, k2⟩
    · rw [k3, masc_key hs ((fH_mem _ _ _).1 hx).1 hy (by omega) (by omega)]
    · exact absurd ⟨h1, h2⟩ (k1 x ((fH_mem _ _ _).1 hx).1)
  · rw [h2]
    rcases markOf_eq _ hs h f with ⟨y, hy, k1, k2, k3⟩ | ⟨k1, k2⟩
    · exact absurd ⟨k1, k2⟩ (h1 y ((fH_mem _ _ _).2 ⟨hy, k1⟩))
    · exact k2.symm
theorem countT_tH {ts : List Tal} (hs : TAsc ts) (h : Int) (r : Str) : countT (tH h ts) h r = countT ts h r := by
  rcases countT_eq _ (tH_asc hs) h r with ⟨x, hx, h1, h2, h3, _⟩ | ⟨h1, h2, _⟩
  · rw [h3]
    rcases countT_eq _ hs h r with ⟨y, hy, k1, k2, k3, _⟩ | ⟨k1, k2, _⟩
    · rw [k3, tasc_key hs ((tH_mem _ _ _).1 hx).1 hy (by omega) (by rw [h2, k2])]
    · exact absurd ⟨h1, h2⟩ (k1 x ((tH_mem _ _ _).1 hx).1)
  · rw [h2]
    rcases countT_eq _ hs h r with ⟨y, hy, k1, k2, k3, _⟩ | ⟨k1, k2, _⟩
    · exact absurd ⟨k1, k2⟩ (h1 y ((tH_mem _ _ _).2 ⟨hy, k1⟩))
    · exact k2.symm
theorem setM_fH {ms : List Mrk} (hs : MAsc ms) (m : Mrk) : fH m.h (setM ms m) = setM (fH m.h ms) m := by
  refine masc_ext (fH_asc (setM_asc _ _ hs)) (setM_asc _ _ (fH_asc hs)) fun x => ?_
  rw [fH_mem, setM_mem _ _ hs, setM_mem _ _ (fH_asc hs), fH_mem]
  constructor
  · rintro ⟨rfl | ⟨h1, h2⟩, h3⟩
    · exact .inl rfl
    · exact .inr ⟨⟨h1, h3⟩, h2⟩
  · rintro (rfl | ⟨⟨h1, h3⟩, h2⟩)
    · exact ⟨.inl rfl, rfl⟩
    · exact ⟨.inr ⟨h1, h2⟩, h3⟩
theorem setM_fH' {ms : List Mrk} (hs : MAsc ms) (m : Mrk) (h : Int) (hn : m.h ≠ h) : fH h (setM ms m) = fH h ms := by
  refine masc_ext (fH_asc (setM_asc _ _ hs)) (fH_asc hs) fun x => ?_
  rw [fH_mem, setM_mem _ _ hs, fH_mem]
  constructor
  · rintro ⟨rfl | ⟨h1, h2⟩, h3⟩
    · exact absurd h3 hn
    · exact ⟨h1, h3⟩
  · rintro ⟨h1, h3⟩
    exact ⟨.inr ⟨h1, fun hh => hn (hh.1.symm.trans h3)⟩, h3⟩
theorem addT_tH {ts : List Tal} (hs : TAsc ts) (h : Int) (r : Str) (n : Int) : tH h (addT ts h r n) = addT (tH h ts) h r n := by
  by_cases hn : n < 1
  · simp [-Option.bind_some, addT, hn]
  refine tasc_ext (tH_asc (addT_asc hs _ _ _)) (addT_asc (tH_asc hs) _ _ _) fun x => ?_
  rw [tH_mem, addT_mem _ hs _ _ _ hn, addT_mem _ (tH_asc hs) _ _ _ hn, tH_mem, countT_tH hs]
  constructor
  · rintro ⟨rfl | ⟨h1, h2⟩, h3⟩
    · exact .inl rfl
    · exact .inr ⟨⟨h1, h3⟩, h2⟩
  · rintro (rfl | ⟨⟨h1, h3⟩, h2⟩)
    · exact ⟨.inl rfl, rfl⟩
    · exact ⟨.inr ⟨h1, h2⟩, h3⟩
theorem addT_tH' {ts : List Tal} (hs : TAsc ts) (hst : Int) (r : Str) (n : Int) (h : Int) (hne : hst ≠ h) : tH h (addT ts hst r n) = tH h ts := by
  by_cases hn : n < 1
  · simp [-Option.bind_some, addT, hn]
  refine tasc_ext (tH_asc (addT_asc hs _ _ _)) (tH_asc hs) fun x => ?_
  rw [tH_mem, addT_mem _ hs _ _ _ hn, tH_mem]
  constructor
  · rintro ⟨rfl | ⟨h1, h2⟩, h3⟩
    · exact absurd h3 hne
    · exact ⟨h1, h3⟩
  · rintro ⟨h1, h3⟩
    exact ⟨.inr ⟨h1, fun hh => hne (hh.1.symm.trans h3)⟩, h3⟩
theorem apS_facts (hb : Int) : ∀ (its : List It), (∀ i ∈ its, i.e.a0 = hb) → ∀ (ms : List Mrk) (ts : List Tal), MAsc ms → TAsc ts →
    (apS ms ts its).map (fun s => (fH hb s.1, tH hb s.2)) = apS (fH hb ms) (tH hb ts) its ∧
    ∀ s, apS ms ts its = some s → MAsc s.1 ∧ TAsc s.2 ∧ s.1.length ≤ ms.length + its.length ∧ s.2.length ≤ ts.length + 2 * its.length ∧ (∀ h, h ≠ hb → fH h s.1 = fH h ms ∧ tH h s.2 = tH h ts) ∧ (∀ m ∈ s.1, m ∈ ms ∨ m.h = hb) ∧ (∀ m ∈ s.2, m ∈ ts ∨ m.h = hb)
  | [], _, ms, ts, hm, ht => by
    refine ⟨rfl, fun s hs => ?_⟩
    simp only [apS, Option.some.injEq] at hs
    subst hs
    exact ⟨hm, ht, by simp [-Option.bind_some], by simp [-Option.bind_some], fun _ _ => ⟨rfl, rfl⟩, fun m h => .inl h, fun m h => .inl h⟩
  | i :: r, hi, ms, ts, hm, ht => by
    have h0 := hi i (by simp [-Option.bind_some])
    have hr : ∀ x ∈ r, x.e.a0 = hb := fun x hx => hi x (by simp [-Option.bind_some, hx])
    rw [apS_cons, apS_cons]
    rw [h0, markOf_fH hm]
    cases hO : tkO (markOf ms hb i.e.a1) i with
    | none => exact ⟨rfl, fun s hs => by cases hs⟩
    | some o =>
      cases o with
      | none =>
        have hta := addT_asc ht hb dupR i.e.ls.length
        obtain ⟨k1, k2⟩ := apS_facts hb r hr ms _ hm hta
        simp only
        rw [← addT_tH ht]
        refine ⟨k1, fun s hs => ?_⟩
        obtain ⟨q1, q2, q3, q4, q5, q6, q7⟩ := k2 s hs
        have hal := addT_len ts hb dupR i.e.ls.length
        refine ⟨q1, q2, by simp [-Option.bind_some]; omega, by simp [-Option.bind_some]; omega, fun h hne => ⟨(q5 h hne).1, (q5 h hne).2.trans (addT_tH' ht _ _ _ _ (Ne.symm hne))⟩, q6, fun m hm' => ?_⟩
        rcases q7 m hm' with h | h
        · by_cases hn : (i.e.ls.length : Int) < 1
          · left; simpa [-Option.bind_some, addT, hn] using h
          · rcases (addT_mem _ ht _ _ _ hn m).1 h with rfl | ⟨h, _⟩
            · exact .inr rfl
            · exact .inl h
        · exact .inr h
      | some k =>
        have hta := addT_asc ht hb dupR (k : Nat)
        have hta2 := addT_asc hta hb i.r ((i.e.ls.length - k : Nat) : Int)
        have hma := setM_asc ms ⟨hb, i.e.a1, i.e.a3⟩ hm
        obtain ⟨k1, k2⟩ := apS_facts hb r hr _ _ hma hta2
        simp only
        have e1 : setM (fH hb ms) ⟨hb, i.e.a1, i.e.a3⟩ = fH hb (setM ms ⟨hb, i.e.a1, i.e.a3⟩) := (setM_fH hm ⟨hb, i.e.a1, i.e.a3⟩).symm
        rw [e1, ← addT_tH ht, ← addT_tH hta]
        refine ⟨k1, fun s hs => ?_⟩
        obtain ⟨q1, q2, q3, q4, q5, q6, q7⟩ := k2 s hs
        have hal := addT_len ts hb dupR (k : Nat)
        have hal2 := addT_len (addT ts hb dupR (k : Nat)) hb i.r ((i.e.ls.length - k : Nat) : Int)
        have hsl := setM_len ms ⟨hb, i.e.a1, i.e.a3⟩
        have mem2 : ∀ (ts : List Tal), TAsc ts → ∀ (r : Str) (n : Int) (m : Tal), m ∈ addT ts hb r n → m ∈ ts ∨ m.h = hb := fun ts ht r n m h => by
          by_cases hn : n < 1
          · left; simpa [-Option.bind_some, addT, hn] using h
          · rcases (addT_mem _ ht _ _ _ hn m).1 h with rfl | ⟨h, _⟩
            · exact .inr rfl
            · exact .inl h
        refine ⟨q1, q2, by simp [-Option.bind_some]; omega, by simp [-Option.bind_some]; omega, fun h hne => ⟨(q5 h hne).1.trans (setM_fH' hm _ _ (Ne.symm hne)), (q5 h hne).2.trans ((addT_tH' hta _ _ _ _ (Ne.symm hne)).trans (addT_tH' ht _ _ _ _ (Ne.symm hne)))⟩, fun m hm' => ?_, fun m hm' => ?_⟩
        · rcases q6 m hm' with h | h
          · rcases (setM_mem _ _ hm m).1 h with rfl | ⟨h, _⟩
            · exact .inr rfl
            · exact .inl h
          · exact .inr h
        · rcases q7 m hm' with h | h
          · rcases mem2 _ hta _ _ m h with h | h
            · exact mem2 _ ht _ _ m h
            · exact .inr h
          · exact .inr h
/-- The intake behind a batch. -/
def ap (s : List Mrk × List Tal) (b : Bat) : List Mrk × List Tal := (apS s.1 s.2 b.its).getD s
/-- An intake in order, of hosts 1 and 2, behind some batches. -/
structure GS (n : Nat) (s : List Mrk × List Tal) : Prop where
  ma : MAsc s.1
  ta : TAsc s.2
  ml : s.1.length ≤ 3 * n
  tl : s.2.length ≤ 6 * n
  mh : ∀ m ∈ s.1, m.h = 1 ∨ m.h = 2
  th : ∀ m ∈ s.2, m.h = 1 ∨ m.h = 2
theorem gs_nil : GS 0 ([], []) := ⟨List.Pairwise.nil, List.Pairwise.nil, by simp [-Option.bind_some], by simp [-Option.bind_some], by simp [-Option.bind_some], by simp [-Option.bind_some]⟩
theorem ap_gs {n : Nat} {s : List Mrk × List Tal} (g : GS n s) {host : Int} (hh : host = 1 ∨ host = 2) {b : Bat} (hb : BatOK host b) : GS (n + 1) (ap s b) := by
  have hi : ∀ i ∈ b.its, i.e.a0 = host := fun i hi => (hb.it i hi).host
  obtain ⟨k1, k2⟩ := apS_facts host b.its hi s.1 s.2 g.ma g.ta
  have hn := hb.n3
  unfold ap
  cases ha : apS s.1 s.2 b.its with
  | none => exact ⟨g.ma, g.ta, by have := g.ml; simp [-Option.bind_some]; omega, by have := g.tl; simp [-Option.bind_some]; omega, g.mh, g.th⟩
  | some s' =>
    obtain ⟨q1, q2, q3, q4, q5, q6, q7⟩ := k2 s' ha
    refine ⟨q1, q2, by have := g.ml; simp [-Option.bind_some]; omega, by have := g.tl; simp [-Option.bind_some]; omega, fun m hm => ?_, fun m hm => ?_⟩
    · rcases q6 m hm with h | h
      · exact g.mh m h
      · rw [h]; exact hh
    · rcases q7 m hm with h | h
      · exact g.th m h
      · rw [h]; exact hh
theorem s1092r (l : List Mrk) (da db : D) (h : Hp) (ha : SlOf 3 mrkr l da) (hb : SlOf 3 mrkr l db) (hl : l.length ≤ 1000000) : R fn1092 [da, db] h = some (.bool true, h) := by
  suffices Wp (R fn1092 [da, db] h) (fun p => p = (.bool true, h)) by
    obtain ⟨p, h1, rfl⟩ := this
    exact h1
  rw [e1092]
  simp only [F1092, bs, Option.bind_assoc, lens1007 ha, lens1007 hb, dBin_neq, ne_eq, not_true, decide_false, dIf_bool, Bool.false_eq_true, if_false]
  refine Wp.loop (fun n ds g => g = h ∧ ∃ x y z, ∃ i : Nat, ds = [x, .int .i64 i, y, z] ∧ n + i = l.length)
    (fun r => r.1 = .ext 0 ∧ r.2.2 = h) l.length ⟨rfl, _, _, _, 0, rfl, rfl⟩ ?_ ?_
  · rintro n ds g ⟨rfl, x, y, z, i, rfl, hi⟩
    simp only [F1092_L0, nth_zero, nth_succ, bs, Option.bind_assoc, lens1007 ha, dBin_lss]
    refine Wp.dif ?_ ?_
    · intro h0
      have h0 : i < l.length := by have : (i : Int) < l.length := by simpa [-Option.bind_some] using h0
                                   omega
      have hg : l[i]? = some l[i] := List.getElem?_eq_getElem h0
      generalize l[i] = u at hg
      have ia : dIndexAddr tab ty1007 da (.int .i64 i) = some (.fptr (mrkr u)) := by rw [ixs1007 ha]; simp [-Option.bind_some, hg]
      have ib : dIndexAddr tab ty1007 db (.int .i64 i) = some (.fptr (mrkr u)) := by rw [ixs1007 hb]; simp [-Option.bind_some, hg]
      have hw : IntKind.wrap .i64 ((i : Int) + 1) = ((i + 1 : Nat) : Int) := by
        rw [wrap_i64 (by omega) (by omega)]; omega
      have hn : dBin tab .neq ty1006 (.agg (mrkr u)) (.agg (mrkr u)) = some (.bool false) := by
        have := bneq1006 u.h u.h u.f u.f u.o u.o
        simpa [-Option.bind_some, mrkr] using this
      simp only [ia, ib, mrkr_ld, hn, bs, dIf_bool, Bool.false_eq_true, if_false, dBin_add, hw]
      exact .some (.inl ⟨rfl, n - 1, by omega, rfl, _, _, _, i + 1, rfl, by omega⟩)
    · intro _
      exact .some (.inr ⟨by simp [-Option.bind_some], rfl, rfl⟩)
  · rintro ⟨ex, ds, g⟩ ⟨q1, q2⟩
    simp only at q1 q2
    subst q1; subst q2
    simp only [unblk_self, toEnd_nrm, bs, mkRes_one]
    exact .some rfl
theorem bt_ix {l : List Bat} {d : D} (hd : SlOf 3 batr l d) {i : Nat} {b : Bat} (hi : l[i]? = some b) (h : Hp) : dIndexAddr tab ty1059 d (.int .i64 (i : Int)) = some (.fptr (batr b)) ∧ dLoad tab h ty1064 (.fptr (batr b)) = some (.agg (batr b)) :=
  ⟨by rw [ixs1059 hd]; simp [-Option.bind_some, hi], id rfl⟩
/-- An intake in an object. -/
def InO (g : Hp) (q : Nat) (s : List Mrk × List Tal) : Prop := ∃ dm dt, g[q]? = some (.row ty1009 2 [[dm, dt]]) ∧ SlOf 3 mrkr s.1 dm ∧ SlOf 3 talr s.2 dt
theorem InO.same {g g' : Hp} {q z : Nat} {s : List Mrk × List Tal} (h : InO g q s) (hs : Same z g g') (hn : q ≠ z) : InO g' q s := by
  obtain ⟨dm, dt, h1, h2⟩ := h
  exact ⟨dm, dt, (hs.2 q hn).trans h1, h2⟩
theorem tkO_some {m : Int} {i : It} {k : Nat} (h : tkO m i = some (some k)) : m < i.e.a3 ∧ i.e.a2 ≤ m ∧ ((k = 0 ∧ i.e.a2 = m) ∨ (¬ idx (fun l : Lin => decide (l.off = m)) 0 i.e.ls < 1 ∧ k = (idx (fun l : Lin => decide (l.off = m)) 0 i.e.ls).toNat)) := by
  unfold tkO at h
  split at h
  · cases h
  · split at h
    · cases h
    · split at h
      · split at h
        · cases h
        · rename_i h1 h2 h3 h4
          simp only [Option.some.injEq] at h
          exact ⟨by omega, by omega, .inr ⟨h4, h.symm⟩⟩
      · simp only [Option.some.injEq] at h
        exact ⟨by omega, by omega, .inl ⟨h.symm, by omega⟩⟩
theorem tkO_dup {m : Int} {i : It} (h : tkO m i = some none) : i.e.a3 ≤ m := by
  unfold tkO at h
  split at h
  · assumption
  · split at h
    · cases h
    · split at h
      · split at h
        · cases h
        · cases h
      · cases h
theorem tkO_le {m : Int} {i : It} (h : i.e.a3 ≤ m) : tkO m i = some none := by
  unfold tkO
  rw [if_pos h]
theorem wrap_add (a b : Int) : IntKind.wrap .i64 (IntKind.wrap .i64 a + b) = IntKind.wrap .i64 (a + b) := by
  simp only [IntKind.wrap_i64]
  omega
theorem wrap_idem (a : Int) : IntKind.wrap .i64 (IntKind.wrap .i64 a) = IntKind.wrap .i64 a := by
  have := wrap_add a 0
  simpa [-Option.bind_some] using this
/-- Marks grow, and are not before what was taken. -/
theorem apS_mono (hb : Int) : ∀ (its : List It) (ms : List Mrk) (ts : List Tal) (s : List Mrk × List Tal), MAsc ms → apS ms ts its = some s → MAsc s.1 ∧ (∀ h f, markOf ms h f ≤ markOf s.1 h f) ∧ ∀ i ∈ its, i.e.a3 ≤ markOf s.1 i.e.a0 i.e.a1
  | [], ms, ts, s, hm, h => by
    simp only [apS, Option.some.injEq] at h
    subst h
    exact ⟨hm, fun _ _ => Int.le_refl _, by simp [-Option.bind_some]⟩
  | i :: r, ms, ts, s, hm, h => by
    rw [apS_cons] at h
    cases hO : tkO (markOf ms i.e.a0 i.e.a1) i with
    | none => rw [hO] at h; cases h
    | some o =>
      rw [hO] at h
      cases o with
      | none =>
        obtain ⟨h1, h2, h3⟩ := apS_mono hb r ms _ s hm h
        refine ⟨h1, h2, fun x hx => ?_⟩
        rcases List.mem_cons.1 hx with rfl | hx
        · exact Int.le_trans (tkO_dup hO) (h2 _ _)
        · exact h3 x hx
      | some k =>
        have hma := setM_asc ms ⟨i.e.a0, i.e.a1, i.e.a3⟩ hm
        obtain ⟨h1, h2, h3⟩ := apS_mono hb r _ _ s hma h
        have hk := (tkO_some hO).1
        have hset := fun h f => markOf_setM ms hm ⟨i.e.a0, i.e.a1, i.e.a3⟩ h f
        refine ⟨h1, fun h f => ?_, fun x hx => ?_⟩
        · have := h2 h f
          rw [hset] at this
          split at this
          · rename_i hh
            simp only at hh this
            rw [← hh.1, ← hh.2] at this ⊢
            omega
          · exact this
        · rcases List.mem_cons.1 hx with rfl | hx
          · have := h2 x.e.a0 x.e.a1
            rw [hset, if_pos ⟨rfl, rfl⟩] at this
            exact this
          · exact h3 x hx
/-- The tallies behind items that were there before. -/
def dupT (ts : List Tal) (its : List It) : List Tal := its.foldl (fun t i => addT t i.e.a0 dupR i.e.ls.length) ts
theorem apS_again : ∀ (its : List It) (ms : List Mrk) (ts : List Tal), (∀ i ∈ its, i.e.a3 ≤ markOf ms i.e.a0 i.e.a1) → apS ms ts its = some (ms, dupT ts its)
  | [], ms, ts, _ => rfl
  | i :: r, ms, ts, h => by
    rw [apS_cons, tkO_le (h i (by simp [-Option.bind_some]))]
    simp only
    rw [apS_again r ms _ fun x hx => h x (by simp [-Option.bind_some, hx])]
    rfl
theorem apE_again : ∀ (its : List It) (ms : List Mrk) (es : List Ev), (∀ i ∈ its, i.e.a3 ≤ markOf ms i.e.a0 i.e.a1) → apE ms its es → es = []
  | [], ms, es, _, h => h
  | i :: r, ms, es, h, he => by
    unfold apE at he
    rw [tkO_le (h i (by simp [-Option.bind_some]))] at he
    exact apE_again r ms es (fun x hx => h x (by simp [-Option.bind_some, hx])) he
/-- The lines of items. -/
def linesI (its : List It) : Int := its.foldl (fun n i => IntKind.wrap .i64 (n + i.e.ls.length)) 0
theorem fold_wrap : ∀ (its : List It) (a b : Int), IntKind.wrap .i64 (a + its.foldl (fun n i => IntKind.wrap .i64 (n + i.e.ls.length)) b) = its.foldl (fun n i => IntKind.wrap .i64 (n + i.e.ls.length)) (IntKind.wrap .i64 (a + b))
  | [], a, b => rfl
  | i :: r, a, b => by
    simp only [List.foldl_cons]
    rw [fold_wrap r a]
    congr 1
    have h1 := wrap_add (a + b) i.e.ls.length
    have h2 := wrap_add (b + i.e.ls.length) a
    rw [h1, show a + IntKind.wrap .i64 (b + (i.e.ls.length : Int)) = IntKind.wrap .i64 (b + (i.e.ls.length : Int)) + a by omega, h2]
    congr 1
    omega
theorem dup_counts (hb : Int) : ∀ (its : List It) (ts : List Tal), TAsc ts → (∀ i ∈ its, i.e.a0 = hb ∧ 1 ≤ i.e.ls.length) →
    TAsc (dupT ts its) ∧ countT (dupT ts its) hb [] = countT ts hb [] ∧ countT (dupT ts its) hb dupR = its.foldl (fun n i => IntKind.wrap .i64 (n + i.e.ls.length)) (countT ts hb dupR)
  | [], ts, h, _ => ⟨h, rfl, rfl⟩
  | i :: r, ts, h, hi => by
    obtain ⟨h0, h1⟩ := hi i (by simp [-Option.bind_some])
    have hta := addT_asc h i.e.a0 dupR i.e.ls.length
    obtain ⟨q1, q2, q3⟩ := dup_counts hb r _ hta fun x hx => hi x (by simp [-Option.bind_some, hx])
    have hn : ¬ ((i.e.ls.length : Nat) : Int) < 1 := by omega
    have e : dupT ts (i :: r) = dupT (addT ts i.e.a0 dupR i.e.ls.length) r := rfl
    rw [e]
    refine ⟨q1, q2.trans ?_, q3.trans ?_⟩
    · rw [countT_addT ts h, if_neg (fun hh => by have := hh.2.1; simp [-Option.bind_some, dupR] at this)]
    · rw [countT_addT ts h, if_pos ⟨h0, rfl, hn⟩, List.foldl_cons, h0]
/-- Tallies whose numbers are numbers of the machine. -/
def RgT (ts : List Tal) : Prop := ∀ h r, IntKind.wrap .i64 (countT ts h r) = countT ts h r
theorem rgT_nil : RgT [] := fun h r => rfl
theorem rgT_add {ts : List Tal} (h : TAsc ts) (hr : RgT ts) (hst : Int) (rule : Str) (n : Int) : RgT (addT ts hst rule n) := fun a b => by
  rw [countT_addT ts h]
  split
  · exact wrap_idem _
  · exact hr a b
theorem apS_rg : ∀ (its : List It) (ms : List Mrk) (ts : List Tal) (s : List Mrk × List Tal), TAsc ts → RgT ts → apS ms ts its = some s → RgT s.2
  | [], ms, ts, s, _, hr, h => by
    simp only [apS, Option.some.injEq] at h
    subst h
    exact hr
  | i :: r, ms, ts, s, ht, hr, h => by
    rw [apS_cons] at h
    cases hO : tkO (markOf ms i.e.a0 i.e.a1) i with
    | none => rw [hO] at h; cases h
    | some o =>
      rw [hO] at h
      cases o with
      | none => exact apS_rg r ms _ s (addT_asc ht _ _ _) (rgT_add ht hr _ _ _) h
      | some k => exact apS_rg r _ _ s (addT_asc (addT_asc ht _ _ _) _ _ _) (rgT_add (addT_asc ht _ _ _) (rgT_add ht hr _ _ _) _ _ _) h
theorem dup_lines (its : List It) (ts : List Tal) (hr : RgT ts) (hb : Int) : IntKind.wrap .i64 (countT ts hb dupR + linesI its) = its.foldl (fun n i => IntKind.wrap .i64 (n + i.e.ls.length)) (countT ts hb dupR) := by
  unfold linesI
  rw [fold_wrap, Int.add_zero, hr hb dupR]
theorem okv2 {s : List Mrk × List Tal} {dm dt : D} (h1 : SlOf 3 mrkr s.1 dm) (h2 : SlOf 3 talr s.2 dt) : (D.agg [dm, dt]).okv = true := by
  have o1 := slof_one h1
  have o2 := slof_one h2
  clear h1 h2
  cases dm <;> first | (cases dt <;> first | rfl | (simp [-Option.bind_some, D.one] at o2)) | (simp [-Option.bind_some, D.one] at o1)
/-- A new variable, and what it holds. -/
theorem new_st {g : Hp} {a b : D} (hok : (D.agg [a, b]).okv = true) {β : Type} {f : Hp → Option β} {Q : β → Prop}
    (k : ∀ g', g'[g.length]? = some (.row ty1009 2 [[a, b]]) → (∀ q, q < g.length → g'[q]? = g[q]?) → Wp (f g') Q) : Wp ((dStore tab (dNew g ty1009 2 [[.nils, .nils]]) ty1009 (.ptr g.length 0 0) (.agg [a, b])).bind f) Q := by
  refine wst1009 (off := 0) (dNew_get _ _ _ _) (by rfl) (by rfl) (by simp [-Option.bind_some]) hok fun g' q' s' => k g' (by exact q') fun q hq => ?_
  rw [s'.2 q (by omega)]
  exact dNew_old _ _ _ _ hq
theorem InO.old {g g' : Hp} {q z : Nat} {s : List Mrk × List Tal} (h : InO g q s) (hz : q < z) (hs : ∀ o, o < z → g'[o]? = g[o]?) : InO g' q s := by
  obtain ⟨dm, dt, h1, h2⟩ := h
  exact ⟨dm, dt, (hs q hz).trans h1, h2⟩
theorem InO.lt {g : Hp} {q : Nat} {s : List Mrk × List Tal} (h : InO g q s) : q < g.length := by
  obtain ⟨dm, dt, h1, h2⟩ := h
  exact (List.getElem?_eq_some_iff.1 h1).1
theorem ld_ino {g : Hp} {q : Nat} {dm dt : D} (h : g[q]? = some (.row ty1009 2 [[dm, dt]])) : dLoad tab g ty1009 (.ptr q 0 0) = some (.agg [dm, dt]) := by rw [ldp1009, row_of h]; rfl
theorem ld_ino0 {g : Hp} {q : Nat} {dm dt : D} (h : g[q]? = some (.row ty1009 2 [[dm, dt]])) : dLoad tab g ty1007 (.ptr q 0 (0 + 0)) = some dm := by rw [ldp1007, row_of h]; rfl
theorem itE4 (i : It) : dFieldAddr tab ty31 4 (.fptr (evr i.e)) = some (.fptr [i.e.ld, .int .i64 i.e.a5, .int .i64 i.e.a6, .str i.e.s7, .str i.e.s8, i.e.fd]) := id rfl
theorem itE4l (i : It) (g : Hp) : dLoad tab g ty28 (.fptr [i.e.ld, .int .i64 i.e.a5, .int .i64 i.e.a6, .str i.e.s7, .str i.e.s8, i.e.fd]) = some i.e.ld := ld28 _ _ _
theorem btF2 (b : Bat) : dFieldAddr tab ty1064 2 (.fptr (batr b)) = some (.fptr [b.d]) := id rfl
theorem linesI_succ {its : List It} {k : Nat} {i : It} (h : its[k]? = some i) : linesI (its.take (k + 1)) = IntKind.wrap .i64 (linesI (its.take k) + i.e.ls.length) := by
  unfold linesI
  rw [List.take_add_one, h, List.foldl_append]
  rfl
end Go.Proofs.YtpenlmgmofhbpaaDoor
