/- Laws, on plain data, about functions that the statement reaches. -/
import Derived.Test.YtmbjebbjeaafgaaDoorL2
set_option linter.unusedSimpArgs false
set_option linter.unusedVariables false
set_option linter.unnecessarySimpa false
set_option maxRecDepth 100000
namespace Go.Proofs.YtmbjebbjeaafgaaDoor
open Go.Eng Go.Pi
theorem s1042 (i : It) (h : Hp) (hf : i.e.fs.length ≤ 20) : R fn1042 [.agg (itr i)] h = some (.int .i64 (itE i), h) := by
  have hbx : boxN 10 (.agg (evr i.e)) = some (.fptr (evr i.e)) := boxN_agg 10 _ rfl
  have q4 : dFieldAddr tab ty31 4 (.fptr (evr i.e)) = some (.fptr [i.e.ld, .int .i64 i.e.a5, .int .i64 i.e.a6, .str i.e.s7, .str i.e.s8, i.e.fd]) := id rfl
  have q5 : dFieldAddr tab ty31 5 (.fptr (evr i.e)) = some (.fptr [.int .i64 i.e.a5, .int .i64 i.e.a6, .str i.e.s7, .str i.e.s8, i.e.fd]) := id rfl
  have q6 : dFieldAddr tab ty31 6 (.fptr (evr i.e)) = some (.fptr [.int .i64 i.e.a6, .str i.e.s7, .str i.e.s8, i.e.fd]) := id rfl
  have q7 : dFieldAddr tab ty31 7 (.fptr (evr i.e)) = some (.fptr [.str i.e.s7, .str i.e.s8, i.e.fd]) := id rfl
  have q8 : dFieldAddr tab ty31 8 (.fptr (evr i.e)) = some (.fptr [.str i.e.s8, i.e.fd]) := id rfl
  have q9 : dFieldAddr tab ty31 9 (.fptr (evr i.e)) = some (.fptr [i.e.fd]) := id rfl
  rw [e1042]
  simp only [F1042, pBoxF_agg, bs, itF0, itF1, itL0, evL, hbx, dBin_seql, mkRes_one]
  unfold itE
  by_cases c0 : i.r = []
  · simp only [c0, beq_self_eq_true, dIf_bool, if_true, s1043 i.e h hf, bs]
  have c0' : (i.r == []) = false := by simpa [-Option.bind_some] using c0
  simp only [c0, c0', dIf_bool, Bool.false_eq_true, if_false, len9, bs, dBin_gtr]
  by_cases c1 : 32 < i.r.length
  · have c1' : (32 : Int) < (i.r.length : Int) := by omega
    simp only [c1, c1', decide_true, if_true]
  have c1' : ¬ (32 : Int) < (i.r.length : Int) := by omega
  simp only [c1, c1', decide_false, Bool.false_eq_true, if_false, s1047, bs, dUn_not]
  cases hb : plB i.e
  · simp only [Bool.not_false, dIf_bool, if_true]
  simp only [Bool.not_true, dIf_bool, Bool.false_eq_true, Bool.true_eq_false, if_false, s1048, bs, dBin_eql]
  generalize linesE i.e 60000 = L
  by_cases c2 : L = 9
  · subst c2
    simp [-Option.bind_some]
  by_cases c3 : L = 4
  · subst c3
    simp [-Option.bind_some]
  by_cases c4 : L = 19
  · subst c4
    simp [-Option.bind_some]
  simp only [c2, c3, c4, or_self, decide_false, gd_bool, if_true, bs, dPick_bool, dIf_bool, Bool.false_eq_true, if_false, q5, q6, q7, q8, q9, q4, ld3, ld9, ld29, ld28, dBin_neq]
  have hfl : (i.e.fs.length : Int) = 0 ↔ i.e.fs.length = 0 := by omega
  have h49 := s1049 i.e.ls i.e.ld h i.e.hld i.e.hll
  generalize (i.e.ls.any fun p => !(p.txt == [])) = bb at h49 ⊢
  by_cases d1n : ¬ i.e.a5 = 0
  · simp only [c2, c3, c4, dBin_eql, d1n, ne_eq, not_true, not_false_eq_true, true_or, or_true, false_or, or_false, decide_true, decide_false, gd_bool, gdW_bool, gd_und, gdW_und, reduceCtorEq, if_true, if_false, Bool.false_eq_true, Bool.true_eq_false, bs, dPick_bool, dIf_bool, ld3, ld9, ld29, ld28, dBin_neq, dBin_sneq, lens29 i.e.hfd, hfl, h49, beq_self_eq_true, Bool.not_true, Bool.not_false, or_self]
  have d1 : i.e.a5 = 0 := Decidable.not_not.1 d1n
  by_cases d2n : ¬ i.e.a6 = 0
  · simp only [c2, c3, c4, dBin_eql, d1, d2n, ne_eq, not_true, not_false_eq_true, true_or, or_true, false_or, or_false, decide_true, decide_false, gd_bool, gdW_bool, gd_und, gdW_und, reduceCtorEq, if_true, if_false, Bool.false_eq_true, Bool.true_eq_false, bs, dPick_bool, dIf_bool, ld3, ld9, ld29, ld28, dBin_neq, dBin_sneq, lens29 i.e.hfd, hfl, h49, beq_self_eq_true, Bool.not_true, Bool.not_false, or_self]
  have d2 : i.e.a6 = 0 := Decidable.not_not.1 d2n
  by_cases d3n : ¬ i.e.s7 = []
  · have d3b : (i.e.s7 == []) = false := by simpa [-Option.bind_some] using d3n
    simp only [c2, c3, c4, dBin_eql, d1, d2, d3n, d3b, ne_eq, not_true, not_false_eq_true, true_or, or_true, false_or, or_false, decide_true, decide_false, gd_bool, gdW_bool, gd_und, gdW_und, reduceCtorEq, if_true, if_false, Bool.false_eq_true, Bool.true_eq_false, bs, dPick_bool, dIf_bool, ld3, ld9, ld29, ld28, dBin_neq, dBin_sneq, lens29 i.e.hfd, hfl, h49, beq_self_eq_true, Bool.not_true, Bool.not_false, or_self]
  have d3 : i.e.s7 = [] := Decidable.not_not.1 d3n
  by_cases d4n : ¬ i.e.s8 = []
  · have d4b : (i.e.s8 == []) = false := by simpa [-Option.bind_some] using d4n
    simp only [c2, c3, c4, dBin_eql, d1, d2, d3, d4n, d4b, ne_eq, not_true, not_false_eq_true, true_or, or_true, false_or, or_false, decide_true, decide_false, gd_bool, gdW_bool, gd_und, gdW_und, reduceCtorEq, if_true, if_false, Bool.false_eq_true, Bool.true_eq_false, bs, dPick_bool, dIf_bool, ld3, ld9, ld29, ld28, dBin_neq, dBin_sneq, lens29 i.e.hfd, hfl, h49, beq_self_eq_true, Bool.not_true, Bool.not_false, or_self]
  have d4 : i.e.s8 = [] := Decidable.not_not.1 d4n
  by_cases d5n : ¬ i.e.fs.length = 0
  · simp only [c2, c3, c4, dBin_eql, d1, d2, d3, d4, d5n, ne_eq, not_true, not_false_eq_true, true_or, or_true, false_or, or_false, decide_true, decide_false, gd_bool, gdW_bool, gd_und, gdW_und, reduceCtorEq, if_true, if_false, Bool.false_eq_true, Bool.true_eq_false, bs, dPick_bool, dIf_bool, ld3, ld9, ld29, ld28, dBin_neq, dBin_sneq, lens29 i.e.hfd, hfl, h49, beq_self_eq_true, Bool.not_true, Bool.not_false, or_self]
  have d5 : i.e.fs.length = 0 := Decidable.not_not.1 d5n
  simp only [c2, c3, c4, dBin_eql, d1, d2, d3, d4, d5, ne_eq, not_true, not_false_eq_true, true_or, or_true, false_or, or_false, decide_true, decide_false, gd_bool, gdW_bool, gd_und, gdW_und, reduceCtorEq, if_true, if_false, Bool.false_eq_true, Bool.true_eq_false, bs, dPick_bool, dIf_bool, ld3, ld9, ld29, ld28, dBin_neq, dBin_sneq, lens29 i.e.hfd, hfl, h49, beq_self_eq_true, Bool.not_true, Bool.not_false, or_self]
  cases bb <;> simp [-Option.bind_some, h49]
theorem cmpB_neg : ∀ (a b : Str), Lib.compareBytes a b = - Lib.compareBytes b a
  | [], [] => rfl
  | [], _ :: _ => rfl
  | _ :: _, [] => rfl
  | x :: a, y :: b => by
    have ih := cmpB_neg a b
    simp only [Lib.compareBytes]
    by_cases h1 : x < y
    · have h2 : ¬ y < x := by
        have := UInt8.lt_iff_toNat_lt.1 h1
        intro hh
        have := UInt8.lt_iff_toNat_lt.1 hh
        omega
      simp [-Option.bind_some, h1, h2]
    · by_cases h2 : y < x
      · simp [-Option.bind_some, h1, h2]
      · simp [-Option.bind_some, h1, h2, ih]
theorem asc_srt {l : List (Str × Str)} (h : Asc l) : srt l = l := by
  have hd : ∀ j, dn cF 0 j l = l := fun j => by
    cases j with
    | zero => rfl
    | succ j =>
      unfold dn
      split
      · rename_i x y hx hy
        split
        · rename_i hc
          exfalso
          have h1 := (h j y x hy hx).1
          have h2 := (cmpB_lt y.1 x.1).2 h1
          have h3 := cmpB_neg x.1 y.1
          have h4 := hc.2
          unfold cF at h4
          omega
        · rfl
      · rfl
  have hi : ∀ n i, isr cF 0 i n l = l := fun n => by
    induction n with
    | zero => intro i; rfl
    | succ n ih => intro i; unfold isr; rw [hd]; exact ih _
  exact hi _ _
theorem asc_adj : ∀ {l : List (Str × Str)}, Asc l → adjB l = false
  | [], _ => rfl
  | [_], _ => rfl
  | x :: y :: r, h => by
    unfold adjB
    have h0 := (h 0 x y rfl rfl).2
    have h1 : (y.1 == x.1) = false := by simp [-Option.bind_some]; exact fun hh => h0 hh.symm
    rw [h1, Bool.false_or]
    exact asc_adj fun i p q hp hq => h (i + 1) p q hp hq
theorem asc_sort {l : List (Str × Str)} (h : Asc l) (hl : l.length ≤ 32) (hn : ∀ p ∈ l, fnameOK p.1 = true) : sortF l = (0, l) := by
  have h32 : ¬ 32 < l.length := by omega
  have ha : l.all (fun p => fnameOK p.1) = true := List.all_eq_true.2 hn
  simp only [sortF, h32, if_false, ha, if_true, asc_srt h, asc_adj h, Bool.false_eq_true]
theorem lnE_mch (to_ m : Int) (hm : 200 ≤ m) (ht : to_ ≤ 60000) : ∀ (ls : List Lin) (a : Int), 0 ≤ a → mch a ls to_ → lnE to_ m a ls = 0
  | [], a, _, _ => rfl
  | l :: r, a, ha, h => by
    obtain ⟨h1, h2, h3, h4, h5⟩ := h
    have hle := mch_le r _ _ h5
    have w1 : IntKind.wrap .i64 (to_ - a) = to_ - a := wrap_i64 (by omega) (by omega)
    have w2 : IntKind.wrap .i64 (a + l.len) = a + l.len := wrap_i64 (by omega) (by omega)
    unfold lnE
    rw [if_pos, if_neg (by omega), w2]
    · exact lnE_mch to_ m hm ht r _ (by omega) h5
    · rw [w1]
      refine ⟨h1, by omega, by omega, fun hh => ?_⟩
      obtain ⟨hr, hlt⟩ := hh
      subst hr
      have h5 : a + l.len = to_ := h5
      omega
theorem lines_mch {e : Ev} (m : Int) (hm : 200 ≤ m) (h0 : 0 ≤ e.a2) (ht : e.a3 ≤ 60000) (h1 : 1 ≤ e.ls.length) (h40 : e.ls.length ≤ 40) (hc : mch e.a2 e.ls e.a3) : linesE e m = 0 := by
  have g0 : ¬ e.ls.length = 0 := by omega
  have g1 : ¬ 40 < e.ls.length := by omega
  simp only [linesE, g0, g1, if_false]
  exact lnE_mch _ _ hm ht _ _ h0 hc
theorem mf_asc {l : List (Str × Str)} (h : MF l) : Asc l := by
  have hp : lt98_17.Pairwise fun a b => Op.bytesLess a b = true ∧ a ≠ b := by decide
  have := hp.sublist h.1
  rw [List.pairwise_iff_getElem] at this
  intro i p q h1 h2
  obtain ⟨g1, h1⟩ := List.getElem?_eq_some_iff.1 h1
  obtain ⟨g2, h2⟩ := List.getElem?_eq_some_iff.1 h2
  have := this i (i + 1) (by simpa [-Option.bind_some] using g1) (by simpa [-Option.bind_some] using g2) (by omega)
  simpa [-Option.bind_some, h1, h2] using this
theorem mf_sort {l : List (Str × Str)} (h : MF l) : sortF l = (0, l) := by
  have hl : l.length ≤ 4 := by
    have := h.1.length_le
    simpa [-Option.bind_some] using this
  refine asc_sort (mf_asc h) (by omega) fun p hp => ?_
  have hm : p.1 ∈ lt98_17 := h.1.subset (List.mem_map.2 ⟨p, hp, rfl⟩)
  exact (show ∀ s ∈ lt98_17, fnameOK s = true by decide) _ hm
theorem mf_len {l : List (Str × Str)} (h : MF l) : l.length ≤ 4 := by
  have := h.1.length_le
  simpa [-Option.bind_some] using this
/-- What an event of logtidemake is like, and what is cut of one. -/
structure EvK (e : Ev) : Prop where
  h0 : 0 ≤ e.a0
  h2 : e.a0 ≤ 2
  f0 : 0 ≤ e.a1
  f2 : e.a1 ≤ 2
  a0 : 0 ≤ e.a2
  b9 : e.a3 ≤ 1000
  ch : mch e.a2 e.ls e.a3
  l1 : 1 ≤ e.ls.length
  l3 : e.ls.length ≤ 3
  t0 : 0 ≤ e.a5
  t9 : e.a5 ≤ 255000
  wt : e.a6 ∈ lt82_14
  tr : e.s7 ∈ lt98_15
  st : e.s8 ∈ lt98_16
  fs : MF e.fs
theorem EvM.k {e : Ev} (h : EvM e) : EvK e := ⟨h.h0, h.h2, h.f0, h.f2, h.a0, by have := mch_le _ _ _ h.ch; have := h.a9; have := h.l3; omega, h.ch, h.l1, h.l3, h.t0, h.t9, h.wt, h.tr, h.st, h.fs⟩
theorem EvK.good {e : Ev} (h : EvK e) : evE e = 0 := by
  have hle := mch_le _ _ _ h.ch
  have h1 := h.h0; have h2 := h.h2; have h3 := h.f0; have h4 := h.f2; have h5 := h.a0; have h6 := h.b9; have h7 := h.l1; have h8 := h.t0; have h9 := h.t9; have h10 := h.l3
  have hp : plB e = true := by
    simp [-Option.bind_some, plB]
    omega
  have ht : (decide (0 ≤ e.a5) && decide (e.a5 ≤ 253402300799999)) = true := by simp [-Option.bind_some]; omega
  have hw := (show ∀ s ∈ lt82_14, ¬ s < 1 ∧ Int.tmod 5040 s = 0 by decide) _ h.wt
  have hl := lines_mch 2000 (by omega) h.a0 (by omega) h.l1 (by omega) h.ch
  have htr := (show ∀ s ∈ lt98_15, ¬ 32 < s.length by decide) _ h.tr
  have hst := (show ∀ s ∈ lt98_16, ¬ 32 < s.length by decide) _ h.st
  have hs := mf_sort h.fs
  have hv : (e.fs.any fun p => decide (2000 < p.2.length)) = false := by
    rw [List.any_eq_false]
    intro p hp
    have := (show ∀ s ∈ lt98_18, ¬ 2000 < s.length by decide) _ (h.fs.2 p hp)
    simpa [-Option.bind_some] using this
  simp [-Option.bind_some, evE, hp, ht, hw.1, hw.2, hl, htr, hst, hs, hv]
theorem m10 (zs : List Int) (d : D) (n : Int) (h : Hp) (hd : Given .u8 zs d) (hn : 0 ≤ n) (hn2 : n ≤ 400) (hz : ∀ z ∈ zs, 0 ≤ z ∧ z < 256) (hzl : zs.length ≤ 9223372036854775807) : ∃ h', R fn10 [d, .int .i64 n] h = some (.ptr h.length 0 0, h') ∧ CM h' h.length ∧ h'.length = h.length + 1 ∧ ∀ q, q < h.length → h'[q]? = h[q]? := by
  rw [e10]
  simp only [F10, bs, Option.bind_assoc, given_len hd, dBin_gtr]
  have fin : ∀ d' zs', Given .u8 zs' d' → zs'.length ≤ 400 → (∀ z ∈ zs', 0 ≤ z ∧ z < 256) → ∃ h', ((dBuild tab ty80 [0] [d']).bind fun t13 => (wBox ty80 2 h t13).bind fun p14 => some (mkRes [p14.1], p14.2)) = some (.ptr h.length 0 0, h') ∧ CM h' h.length ∧ h'.length = h.length + 1 ∧ ∀ q, q < h.length → h'[q]? = h[q]? := fun d' zs' hg hl hz' => by
    rw [bd80_0 d' (given_one hg)]
    simp only [bs]
    rw [wBox_agg ty80 2 h [d', .int .i64 0] rfl (by omega)]
    exact ⟨_, rfl, ⟨d', zs', 0, new_get _ _ _ _, hg, hl, by omega, hz'⟩, new_len _ _ _ _, fun q hq => new_old _ _ _ _ hq⟩
  by_cases hgt : n < (zs.length : Int)
  · obtain ⟨d', hs, hg⟩ := given_hi (T := tab) (t := ty22) (i := ti22) (j := ti5) (id rfl) (id rfl) (id rfl) (id rfl) hd (k2 := .i64) hn (Int.le_of_lt hgt)
    simp only [hgt, decide_true, dIf_bool, if_true, hs, bs, toEnd_nrm, nth_zero]
    exact fin d' _ hg (by simp [-Option.bind_some]; omega) fun z hz' => hz z (List.mem_of_mem_take hz')
  · simp only [hgt, decide_false, dIf_bool, Bool.false_eq_true, if_false, bs, toEnd_nrm, nth_zero]
    exact fin d zs hd (by omega) hz
/-- A tally. -/
structure Tal where
  h : Int
  r : Str
  n : Int
/-- All of the first occur in the second, in order. -/
def gr : List Ev → List Ev → Bool
  | [], _ => true
  | _ :: _, [] => false
  | x :: a, y :: b => if sameE x y = true then gr a b else gr (x :: a) b
/-- A sum over tallies. -/
def sm (f : Tal → Int) : List Tal → Int
  | [] => 0
  | t :: r => f t + sm f r
theorem itr_okv (i : It) : (D.agg (itr i)).okv = true := by
  have h1 := slof_one i.e.hld
  have h2 := slof_one i.e.hfd
  have h3 : (D.agg (itr i)) = .agg [.str i.r, .int .i64 i.e.a0, .int .i64 i.e.a1, .int .i64 i.e.a2, .int .i64 i.e.a3, i.e.ld, .int .i64 i.e.a5, .int .i64 i.e.a6, .str i.e.s7, .str i.e.s8, i.e.fd] := rfl
  rw [h3]
  generalize i.e.ld = a at h1
  generalize i.e.fd = b at h2
  cases a <;> first | (cases b <;> first | rfl | (simp [-Option.bind_some, D.one] at h2)) | (simp [-Option.bind_some, D.one] at h1)
/-- Bytes that can be read. -/
def RdB (h : Hp) (l : List Int) (d : D) : Prop := SlOf 1 byr l d ∨ ∃ ob, d = .msl 1 ob 0 l.length ∧ h[ob]? = some (Ob.row ty5 1 (l.map byr))
theorem RdB.own {h : Hp} {n0 : Nat} {l : List Int} {d : D} (ow : Own h n0 ty5 1 (l.map byr) d) : RdB h l d := by
  rcases ow with ⟨rfl, hl⟩ | ⟨o, _, rfl, hg⟩
  · exact .inl (.inl ⟨rfl, by simpa [-Option.bind_some] using hl⟩)
  · exact .inr ⟨o, by simp [-Option.bind_some], hg⟩
theorem rdB_rows {h : Hp} {l : List Int} {d : D} (hd : RdB h l d) : dRowsOf h 1 d = some (l.map byr) := by
  rcases hd with hd | ⟨ob, rfl, ho⟩
  · rcases hd with ⟨rfl, rfl⟩ | ⟨b, rfl⟩
    · rfl
    · exact rowsOf_sl _ _ _ _
  · simp only [dRowsOf, if_true, ho, List.drop_zero]
    rw [List.take_of_length_le (by simp [-Option.bind_some])]
theorem RdB.keep {h h' : Hp} {l : List Int} {d : D} (hd : RdB h l d) (hk : ∀ (q T z : Nat) (rows : List (List D)), h[q]? = some (Ob.row T z rows) → h'[q]? = h[q]?) : RdB h' l d := by
  rcases hd with hd | ⟨ob, rfl, ho⟩
  · exact .inl hd
  · exact .inr ⟨ob, rfl, by rw [hk _ _ _ _ ho]; exact ho⟩
theorem scope_nil (g : Hp) (b : Bool) : scope [] g (.bool b) = some (.bool b, []) := scope_eq (by simp [-Option.bind_some]) (.bool _) (Nat.zero_le _) fun q hq => absurd hq (Nat.not_lt_zero q)
def bys (l : List Int) : Str := l.map fun z => UInt8.ofNat z.toNat
theorem dBytes_by : ∀ (l : List Int), dBytes (l.map byr) = some (bys l)
  | [] => rfl
  | z :: l => by
    simp only [List.map_cons, byr, dBytes]
    rw [dBytes_by l]
    rfl
theorem toStr_by {h : Hp} {l : List Int} {d : D} (hd : SlOf 1 byr l d) : dToStr h d = some (.str (bys l)) := by
  simp only [dToStr, rdB_rows (h := h) (.inl hd), dBytes_by]
def zit : It := ⟨[], ⟨0, 0, 0, 0, [], .nils, 0, 0, [], [], [], .nils, SlOf.nils _ _, by simp [-Option.bind_some], SlOf.nils _ _, by simp [-Option.bind_some]⟩⟩
def batx (hs nu : Int) (d : D) : List D := [.int .i64 hs, .int .i64 nu, d]
theorem bxl (hs nu : Int) (d : D) (g : Hp) : dLoad tab g ty3 (.fptr (batx hs nu d)) = some (.int .i64 hs) := id rfl
/-- A rule of chapter 18. -/
structure Rt where
  n : Str
  f : Str
  v : Str
  s : Str
  pr : Int
  dr : Bool
def rtr (r : Rt) : List D := [.str r.n, .str r.f, .str r.v, .str r.s, .int .i64 r.pr, .bool r.dr]
def rtZ : Rt := ⟨[], [], [], [], 0, false⟩
theorem rtr_frz (n0 : Nat) (h : Hp) (n : Nat) (r : Rt) : ∀ d ∈ rtr r, frz n0 h n d = d := by simp [-Option.bind_some, rtr]
theorem rtr_ok (n : Nat) (r : Rt) : ∀ d ∈ rtr r, Ok n d := by
  intro d hd
  simp [-Option.bind_some, rtr] at hd
  rcases hd with rfl | rfl | rfl | rfl | rfl | rfl <;> constructor
def predFn (r : Rt) : D := if r.f = [] then .fn (.func fn68) [] [] else .fn (.func fn69) [] [.fptr (rtr r)]
theorem rtL1 (r : Rt) (h : Hp) : dFieldAddr tab ty34 1 (.fptr (rtr r)) = some (.fptr [.str r.f, .str r.v, .str r.s, .int .i64 r.pr, .bool r.dr]) ∧ dLoad tab h ty9 (.fptr [.str r.f, .str r.v, .str r.s, .int .i64 r.pr, .bool r.dr]) = some (.str r.f) := ⟨id rfl, id rfl⟩
theorem rtL2 (r : Rt) (h : Hp) : dFieldAddr tab ty34 2 (.fptr (rtr r)) = some (.fptr [.str r.v, .str r.s, .int .i64 r.pr, .bool r.dr]) ∧ dLoad tab h ty9 (.fptr [.str r.v, .str r.s, .int .i64 r.pr, .bool r.dr]) = some (.str r.v) := ⟨id rfl, id rfl⟩
theorem s43 (r : Rt) (h : Hp) : R fn43 [.agg (rtr r)] h = some (predFn r, h) := by
  rw [e43]
  unfold predFn
  by_cases h0 : r.f = []
  · simp only [F43, pBoxF_agg, bs, (rtL1 r h).1, ld9, dBin_seql, h0, beq_self_eq_true, dIf_bool, if_true, mkRes_one]
  · have hb : (r.f == []) = false := by simpa [-Option.bind_some] using h0
    simp only [F43, pBoxF_agg, bs, (rtL1 r h).1, ld9, dBin_seql, hb, h0, dIf_bool, Bool.false_eq_true, if_false, mkRes_one]
theorem sPred (r : Rt) (e : Ev) (h : Hp) : callV R (predFn r) [.agg (evr e)] h = some (.bool (app r.f r.v e), h) := by
  unfold predFn app
  by_cases h0 : r.f = []
  · simp [-Option.bind_some, h0, e68, F68]
  · have q9 : dFieldAddr tab ty31 9 (.fptr (evr e)) = some (.fptr [e.fd]) := id rfl
    have q9l : dLoad tab h ty29 (.fptr [e.fd]) = some e.fd := id rfl
    have hb : (r.f == []) = false := by simpa [-Option.bind_some] using h0
    simp only [h0, if_false, callV_some]
    show R fn69 [.agg (evr e), .fptr (rtr r)] h = _
    rw [e69]
    simp only [F69, pBoxF_agg, bs, q9, q9l, (rtL1 r h).1, (rtL1 r h).2, (rtL2 r h).1, (rtL2 r h).2, s70 _ _ _ _ e.hfd e.hl, getD', dExtract_tup, List.getElem?_cons_zero, List.getElem?_cons_succ, hb, Bool.false_or]
    cases hg : getF e.fs r.f with
    | none => simp [-Option.bind_some]
    | some x => simp [-Option.bind_some, dBin_seql]
def fit (l : List Rt) (e : Ev) : Option Rt := l.find? fun r => app r.f r.v e
theorem s13 (l : List Rt) (d : D) (e : Ev) (h : Hp) (hd : SlOf 6 rtr l d) (hl : l.length ≤ 1000000000) : R fn13 [d, .agg (evr e)] h = some (.tup [.agg (rtr ((fit l e).getD rtZ)), .bool (fit l e).isSome], h) := by
  suffices Wp (R fn13 [d, .agg (evr e)] h) (fun p => p = (.tup [.agg (rtr ((fit l e).getD rtZ)), .bool (fit l e).isSome], h)) by
    obtain ⟨p, h1, rfl⟩ := this
    exact h1
  rw [e13]
  have hz : ([.str [], .str [], .str [], .str [], .int .i64 0, .bool false] : List D) = rtr rtZ := rfl
  have a0 : (dNew h ty34 6 [rtr rtZ])[h.length]? = some (.row ty34 6 [rtr rtZ]) := dNew_get _ _ _ _
  have k0 : ∀ q, q < h.length → (dNew h ty34 6 [rtr rtZ])[q]? = h[q]? := fun q hq => dNew_old _ _ _ _ hq
  simp only [F13, hz, pBoxF_agg, bs, lens26 hd, Option.bind_assoc]
  generalize dNew h ty34 6 [rtr rtZ] = g0 at *
  have hgl : h.length ≤ g0.length := by have := (List.getElem?_eq_some_iff.1 a0).1; omega
  have fin : ∀ (g : Hp) (r : Rt) (b : Bool), g[h.length]? = some (.row ty34 6 [rtr r]) → (∀ q, q < h.length → g[q]? = h[q]?) → (dLoad tab g ty34 (.ptr h.length 0 0)).bind (fun d => scope h g (mkRes [d, .bool b])) = some (.tup [.agg (rtr r), .bool b], h) := fun g r b hg hq => by
    have ld : dLoad tab g ty34 (.ptr h.length 0 0) = some (.agg (rtr r)) := by rw [ldp34, row_of hg]; rfl
    have hl : h.length ≤ g.length := by have := (List.getElem?_eq_some_iff.1 hg).1; omega
    simp only [ld, bs, mkRes_two]
    exact scope_eq rfl (by
      refine .tup _ fun d hd => ?_
      simp [-Option.bind_some] at hd
      rcases hd with rfl | rfl
      · exact .agg _ (rtr_ok _ r)
      · constructor) hl hq
  refine Wp.loop (fun k ds g => g = g0 ∧ ∃ a1 a3 a4, ∃ n : Nat, ds = [.bool false, a1, .int .i64 n, a3, a4] ∧ k + n = l.length ∧ fit l e = fit (l.drop n) e)
    (fun r => (r.1 = .ret ∧ (∃ a1 a2 a3 a4, r.2.1 = [.bool true, a1, a2, a3, a4]) ∧ ∃ x, fit l e = some x ∧ r.2.2[h.length]? = some (.row ty34 6 [rtr x]) ∧ ∀ q, q < h.length → r.2.2[q]? = h[q]?) ∨ (r.1 = .ext 0 ∧ r.2.2 = g0 ∧ fit l e = none)) l.length ⟨rfl, _, _, _, 0, rfl, rfl, by simp [-Option.bind_some]⟩ ?_ ?_
  · rintro k ds g ⟨rfl, a1, a3, a4, n, rfl, hk, hf⟩
    simp only [F13_L0, nth_zero, nth_succ, bs, Option.bind_assoc, dBin_lss]
    refine Wp.dif ?_ ?_
    · intro h0
      have h0 : n < l.length := by have : (n : Int) < l.length := by simpa [-Option.bind_some] using h0
                                   omega
      obtain ⟨r, hr⟩ : ∃ r, l[n]? = some r := ⟨_, List.getElem?_eq_getElem h0⟩
      have hw : IntKind.wrap .i64 ((n : Int) + 1) = ((n + 1 : Nat) : Int) := by
        rw [wrap_i64 (by omega) (by omega)]; omega
      have hii : dIndexAddr tab ty26 d (.int .i64 (n : Int)) = some (.fptr (rtr r)) := by rw [ixs26 hd]; simp [-Option.bind_some, hr]
      have ldr : ∀ g : Hp, dLoad tab g ty34 (.fptr (rtr r)) = some (.agg (rtr r)) := fun g => id rfl
      have lde : ∀ g : Hp, dLoad tab g ty31 (.fptr (evr e)) = some (.agg (evr e)) := fun g => id rfl
      have bxr : boxN 6 (.agg (rtr r)) = some (.fptr (rtr r)) := boxN_agg 6 _ rfl
      have hdr : l.drop n = r :: l.drop (n + 1) := by
        obtain ⟨hn, hx⟩ := List.getElem?_eq_some_iff.1 hr
        rw [List.drop_eq_getElem_cons hn, hx]
      simp only [hii, ldr, bxr, s43, lde, sPred, bs, chk_true, Option.bind_assoc]
      refine Wp.dif ?_ ?_
      · intro h1
        try simp only [ldr, bs, Option.bind_assoc]
        refine wst34 (kk := 0) (off := 0) (row := rtr rtZ) (v := .agg (rtr r)) a0 (by rfl) (by rfl) (by exact Nat.le_refl _) (by rfl) fun g1 p1 u1 => ?_
        have p1 : g1[h.length]? = some (.row ty34 6 [rtr r]) := p1
        try simp only [bs]
        refine .some (.inr ⟨by simp [-Option.bind_some], .inl ⟨rfl, ⟨_, _, _, _, rfl⟩, r, ?_, p1, fun q hq => by rw [u1.2 q (by omega)]; exact k0 q hq⟩⟩)
        rw [hf, hdr]
        simp only [fit, List.find?_cons, h1]
      · intro h1
        simp only [dBin_add, hw, bs]
        refine .some (.inl ⟨rfl, k - 1, by omega, rfl, _, _, _, n + 1, rfl, by omega, ?_⟩)
        rw [hf, hdr]
        simp only [fit, List.find?_cons, h1]
    · intro h0
      have h0 : n = l.length := by have : ¬ (n : Int) < l.length := by simpa [-Option.bind_some] using h0
                                   omega
      refine .some (.inr ⟨by simp [-Option.bind_some], .inr ⟨rfl, rfl, ?_⟩⟩)
      rw [hf, h0, List.drop_length]; rfl
  · rintro ⟨ex, ds, g⟩ (⟨rfl, ⟨a1, a2, a3, a4, rfl⟩, x, hx, hg, hq⟩ | ⟨rfl, q2, hx⟩)
    · have hg : g[h.length]? = some (.row ty34 6 [rtr x]) := hg
      simp only [unblk_ret, toEnd_ret, exEnd_ret, bs, nth_zero, Option.bind_assoc]
      rw [hx]
      rw [fin g x true hg hq]
      exact .some rfl
    · simp only at q2
      subst q2
      simp only [unblk_self, toEnd_nrm, bs, bd34_, Option.bind_assoc]
      rw [hx]
      refine wst34 (kk := 0) (off := 0) (row := rtr rtZ) (v := .agg (rtr rtZ)) a0 (by rfl) (by rfl) (by exact Nat.le_refl _) (by rfl) fun g1 p1 u1 => ?_
      have p1 : g1[h.length]? = some (.row ty34 6 [rtr rtZ]) := p1
      rw [fin g1 rtZ false p1 (fun q hq => by rw [u1.2 q (by omega)]; exact k0 q hq)]
      exact .some rfl
/-- A rule, as logtidemake makes it. -/
structure RtK (r : Rt) : Prop where
  n0 : r.n ≠ []
  n9 : r.n.length ≤ 32
  st : r.s.length ≤ 32
theorem m11 {h : Hp} {o : Nat} (hc : CM h o) : ∃ x h', R fn11 [.ptr o 0 0] h = some (x, h') ∧ CM h' o ∧ Same o h h' ∧ ∃ l : List Rt, SlOf 6 rtr l x ∧ l.length ≤ 3 ∧ ∀ r ∈ l, RtK r := by
  suffices Wp (R fn11 [.ptr o 0 0] h) (fun p => CM p.2 o ∧ Same o h p.2 ∧ ∃ l : List Rt, SlOf 6 rtr l p.1 ∧ l.length ≤ 3 ∧ ∀ r ∈ l, RtK r) by
    obtain ⟨⟨x, h'⟩, h1, h2⟩ := this
    exact ⟨x, h', h1, h2⟩
  rw [e11]
  simp only [F11, bs, Option.bind_assoc]
  obtain ⟨v, h1, e1, c1, s1, v0, v1⟩ := m39 hc 4 (by omega) (by omega)
  refine Wp.step e1 ?_
  obtain ⟨n, rfl⟩ := Int.eq_ofNat_of_zero_le v0
  simp only [bs]
  refine Wp.loop (fun k ds g => ∃ x a b, ∃ l : List Rt, ds = [x, .int .i64 (k : Nat), a, b] ∧ Sm h o g ∧ l.length + k ≤ 3 ∧ Own g h.length ty34 6 (l.map rtr) x ∧ ∀ r ∈ l, RtK r)
    (fun r => r.1 = .ext 0 ∧ ∃ x a b c, ∃ l : List Rt, r.2.1 = [x, a, b, c] ∧ Sm h o r.2.2 ∧ l.length ≤ 3 ∧ Own r.2.2 h.length ty34 6 (l.map rtr) x ∧ ∀ r ∈ l, RtK r) n ⟨.nils, _, _, [], rfl, (Sm.refl hc).next c1 s1, by simp [-Option.bind_some]; omega, Own.nils _ _ _ _, by simp [-Option.bind_some]⟩ ?_ ?_
  · rintro k ds g ⟨x, a, b, l, rfl, S, hk, ow, hl⟩
    simp only [F11_L0, nth_zero, nth_succ, bs, Option.bind_assoc, dBin_gtr]
    refine Wp.dif ?_ ?_
    · intro h0
      have h0 : 0 < k := by have : (k : Int) > 0 := by simpa [-Option.bind_some] using h0
                            omega
      have hk1 : IntKind.wrap .i64 ((k : Int) - 1) = ((k - 1 : Nat) : Int) := by
        rw [wrap_i64 (by omega) (by omega)]; omega
      have hz : ([.str [], .str [], .str [], .str [], .int .i64 0, .bool false] : List D) = rtr rtZ := rfl
      simp only [leno26 ow, dBin_add, bs, cv3_5]
      generalize IntKind.wrap .u8 (IntKind.wrap .i64 (48 + ((l.map rtr).length : Int))) = z
      have hts : ∀ g : Hp, dToStr g (.sl 1 true [[.int .u8 z]]) = some (.str (bys [z])) := fun g => toStr_by (SlOf.mk 1 byr [z] true)
      simp only [bs22_1, bs, hts]
      refine add_wp _ (by simp [-Option.bind_some]) (by simp [-Option.bind_some, bys]) fun nm hnm => ?_
      have hnm : nm.length = 2 := by rw [hnm]; simp [-Option.bind_some, bys]
      simp only [lt98_11_ok, bs]
      refine pick_wp S.cd lt98_11 8 (by decide) (by decide) (by decide) fun u g2 c2 s2 hu _ => ?_
      have S2 := S.next c2 s2
      replace ow := ow.same s2 hc.lt
      simp only [lt98_12_ok, bs]
      refine pick_wp S2.cd lt98_12 8 (by decide) (by decide) (by decide) fun u3 g3 c3 s3 hu3 _ => ?_
      have S3 := S2.next c3 s3
      replace ow := ow.same s3 hc.lt
      simp only [lt98_13_ok, bs]
      refine pick_wp S3.cd lt98_13 8 (by decide) (by decide) (by decide) fun u4 g4 c4 s4 hu4 hst => ?_
      have S4 := S3.next c4 s4
      replace ow := ow.same s4 hc.lt
      simp only [bs]
      obtain ⟨p, g5, e5, c5, s5, p0, p1⟩ := m39 S4.cd 10 (by omega) (by omega)
      have S5 := S4.next c5 s5
      replace ow := ow.same s5 hc.lt
      refine Wp.step e5 ?_
      simp only [bs]
      obtain ⟨q, g6, e6, c6, s6, q0, q1⟩ := m39 S5.cd 3 (by omega) (by omega)
      have S6 := S5.next c6 s6
      replace ow := ow.same s6 hc.lt
      refine Wp.step e6 ?_
      simp only [bs, dBin_eql, bd34_0_1_2_3_4_5, hz, hts, chk_true, Option.bind_assoc]
      have a0 : (dNew g6 ty34 6 [rtr rtZ])[g6.length]? = some (.row ty34 6 [rtr rtZ]) := dNew_get _ _ _ _
      have k0 : ∀ q, q < g6.length → (dNew g6 ty34 6 [rtr rtZ])[q]? = g6[q]? := fun q hq => dNew_old _ _ _ _ hq
      have l0 : (dNew g6 ty34 6 [rtr rtZ]).length = g6.length + 1 := by simp [-Option.bind_some, dNew]
      generalize dNew g6 ty34 6 [rtr rtZ] = g7 at *
      have hle := S6.le
      refine wst34 (kk := 0) (off := 0) (row := rtr rtZ) (v := .agg (rtr ⟨nm, u, u3, u4, p, decide (q = 2)⟩)) a0 (by rfl) (by rfl) (by exact Nat.le_refl _) (by rfl) fun g8 p8 s8 => ?_
      have p8 : g8[g6.length]? = some (.row ty34 6 [rtr ⟨nm, u, u3, u4, p, decide (q = 2)⟩]) := p8
      have ld8 : dLoad tab g8 ty34 (.ptr g6.length 0 0) = some (.agg (rtr ⟨nm, u, u3, u4, p, decide (q = 2)⟩)) := by rw [ldp34, row_of p8]; rfl
      have lit8 : pLitF tab ty26 1 [0] [.agg (rtr ⟨nm, u, u3, u4, p, decide (q = 2)⟩)] = some (.sl 6 true [rtr ⟨nm, u, u3, u4, p, decide (q = 2)⟩]) := id rfl
      have hlen8 := s8.1
      have S8 : Sm h o g8 := S6.app (by omega) (fun q hq => by rw [s8.2 q (by omega), k0 q (by omega)])
      replace ow : Own g8 h.length ty34 6 (l.map rtr) x := ow.keep fun q _ hx => by rw [s8.2 q (by have := (ow.lt hx).2; omega), k0 q (ow.lt hx).2]
      simp only [ld8, lit8, bs]
      refine wap26 S8.le ow (rowsOf_sl _ _ _ _) (by simp [-Option.bind_some]; omega) fun x' g9 ow len bel _ _ => ?_
      simp only [bs, dBin_sub, hk1]
      refine .some (.inl ⟨rfl, k - 1, by omega, x', _, _, l ++ [⟨nm, u, u3, u4, p, decide (q = 2)⟩], rfl, S8.app len bel, by simp [-Option.bind_some]; omega, by rw [List.map_append]; exact ow, fun r hr => ?_⟩)
      rcases List.mem_append.1 hr with hr | hr
      · exact hl r hr
      · simp [-Option.bind_some] at hr
        subst hr
        exact ⟨fun hh => by simp [-Option.bind_some] at hh; rw [hh] at hnm; simp [-Option.bind_some] at hnm, by simp [-Option.bind_some, hnm], by simp [-Option.bind_some]; omega⟩
    · intro h0
      exact .some (.inr ⟨by simp [-Option.bind_some], rfl, x, _, _, _, l, rfl, S, by omega, ow, hl⟩)
  · rintro ⟨ex, ds, g⟩ ⟨rfl, x, a, b, c, l, rfl, S, hl3, ow, hl⟩
    simp only [unblk_self, toEnd_nrm, nth_zero, bs, mkRes_one]
    have hsl := own_sl (n := 3) ow (Nat.le_refl _) (fun a _ => rtr_frz _ g _ a)
    obtain ⟨h', hs, hcd, hsm⟩ := S.scope rfl (slof_ok hsl fun a _ => rtr_ok _ a)
    exact ⟨_, hs, hcd, hsm, l, hsl, hl3, hl⟩
def stre (e : Ev) (s : Str) : Ev := { e with s8 := s }
def lin0 (l : Lin) : Lin := ⟨l.off, l.len, []⟩
def skr (e : Ev) (d : D) : List D := [.int .i64 e.a0, .int .i64 e.a1, .int .i64 e.a2, .int .i64 e.a3, d, .int .i64 0, .int .i64 0, .str [], .str [], .nils]
theorem ap_end {h g : Hp} {k : Int} {j : It} (hg : g[h.length + 1]? = some (.row ty74 11 [itr j])) (hb : ∀ q, q < h.length → g[q]? = h[q]?) : (dLoad tab g ty74 (.ptr (h.length + 1) 0 0)).bind (fun d => scope h g (mkRes [d, .int .i64 k])) = some (.tup [.agg (itr j), .int .i64 k], h) := by
  have ld : dLoad tab g ty74 (.ptr (h.length + 1) 0 0) = some (.agg (itr j)) := by rw [ldp74, row_of hg]; rfl
  have hl : h.length ≤ g.length := by have := (List.getElem?_eq_some_iff.1 hg).1; omega
  have h1 : (itr j).map (frz h.length g 2) = itr j := by
    conv => rhs; rw [← List.map_id (itr j)]
    exact List.map_congr_left fun d hd => itr_frz _ g 1 j d hd
  simp only [ld, bs, mkRes_two]
  refine scope_eq ?_ ?_ hl hb
  · show D.tup [D.agg ((itr j).map (frz h.length g 2)), .int .i64 k] = _
    rw [h1]
  · refine .tup _ fun d hd => ?_
    simp [-Option.bind_some] at hd
    rcases hd with rfl | rfl
    · exact itr_ok _ j
    · constructor
/-- What Apply gives: the item and the priority. -/
structure ApR (l : List Rt) (e : Ev) (i : It) (k : Int) : Prop where
  no : fit l e = none → i = ⟨[], stre e [109, 97, 105, 110]⟩ ∧ k = 0
  keep : ∀ r, fit l e = some r → r.dr = false → i = ⟨[], stre e r.s⟩ ∧ k = r.pr
  skip : ∀ r, fit l e = some r → r.dr = true → k = r.pr ∧ i.r = r.n ∧ i.e.a0 = e.a0 ∧ i.e.a1 = e.a1 ∧ i.e.a2 = e.a2 ∧ i.e.a3 = e.a3 ∧ i.e.ls = e.ls.map lin0 ∧ i.e.a5 = 0 ∧ i.e.a6 = 0 ∧ i.e.s7 = [] ∧ i.e.s8 = [] ∧ i.e.fs = []
theorem l38 {h : Hp} {e : Ev} {g0 : Hp} (hq : ∀ q, q < h.length → g0[q]? = h[q]?) (hi : g0[h.length + 1]? = some (.row ty74 11 [itr zit])) (hs : g0[h.length + 2]? = some (.row ty31 10 [skr e .nils])) (he : e.ls.length ≤ 1000000000) {p8 : D × Hp} (hp8 : p8.1 = .ptr (h.length + 2) 0 0) (x1 x2 : D) {β : Type} {K : Out → Option β} {Q : β → Prop}
    (k : ∀ g ld b1 b2 b3, g[h.length + 1]? = some (.row ty74 11 [itr zit]) → g[h.length + 2]? = some (.row ty31 10 [skr e ld]) → Own g (h.length + 3) ty78 3 ((e.ls.map lin0).map linr) ld → (∀ q, q < h.length → g[q]? = h[q]?) → Wp (K (.ext 0, [b1, b2, b3], g)) Q) : Wp ((loopW (F38_L0 p8 e.ld (.int .i64 e.ls.length)) [x1, .int .i64 0, x2] g0).bind K) Q := by
  refine Wp.loop (fun kk ds g => ∃ b1 b3, ∃ n : Nat, ∃ ld, ds = [b1, .int .i64 n, b3] ∧ kk + n = e.ls.length ∧ g[h.length + 1]? = some (.row ty74 11 [itr zit]) ∧ g[h.length + 2]? = some (.row ty31 10 [skr e ld]) ∧ Own g (h.length + 3) ty78 3 (((e.ls.take n).map lin0).map linr) ld ∧ ∀ q, q < h.length → g[q]? = h[q]?)
    (fun r => r.1 = .ext 0 ∧ ∃ b1 b2 b3 ld, r.2.1 = [b1, b2, b3] ∧ r.2.2[h.length + 1]? = some (.row ty74 11 [itr zit]) ∧ r.2.2[h.length + 2]? = some (.row ty31 10 [skr e ld]) ∧ Own r.2.2 (h.length + 3) ty78 3 ((e.ls.map lin0).map linr) ld ∧ ∀ q, q < h.length → r.2.2[q]? = h[q]?) e.ls.length ⟨_, _, 0, .nils, rfl, rfl, hi, hs, Own.nils _ _ _ _, hq⟩ ?_ ?_
  · rintro kk ds g ⟨b1, b3, n, ld, rfl, hk, hi, hs, ow, hq⟩
    simp only [F38_L0, nth_zero, nth_succ, bs, Option.bind_assoc, dBin_lss, hp8]
    refine Wp.dif ?_ ?_
    · intro h0
      have h0 : n < e.ls.length := by have : (n : Int) < e.ls.length := by simpa [-Option.bind_some] using h0
                                      omega
      obtain ⟨l, hl⟩ : ∃ l, e.ls[n]? = some l := ⟨_, List.getElem?_eq_getElem h0⟩
      have hw : IntKind.wrap .i64 ((n : Int) + 1) = ((n + 1 : Nat) : Int) := by
        rw [wrap_i64 (by omega) (by omega)]; omega
      have hii : dIndexAddr tab ty28 e.ld (.int .i64 (n : Int)) = some (.fptr (linr l)) := by rw [ixs28 e.hld]; simp [-Option.bind_some, hl]
      have ldl : ∀ g : Hp, dLoad tab g ty78 (.fptr (linr l)) = some (.agg (linr l)) := fun g => id rfl
      have bxl : boxN 3 (.agg (linr l)) = some (.fptr (linr l)) := boxN_agg 3 _ rfl
      have f0 : dFieldAddr tab ty78 0 (.fptr (linr l)) = some (.fptr (linr l)) := id rfl
      have f1 : dFieldAddr tab ty78 1 (.fptr (linr l)) = some (.fptr [.int .i64 l.len, .str l.txt]) := id rfl
      have f0l : ∀ g : Hp, dLoad tab g ty3 (.fptr (linr l)) = some (.int .i64 l.off) := fun g => id rfl
      have ldd : dLoad tab g ty28 (.ptr (h.length + 2) 0 (0 + 4)) = some ld := by rw [ldp28, row_of hs]; rfl
      have hlit : pLitF tab ty28 1 [0] [.agg [.int .i64 l.off, .int .i64 l.len, .str []]] = some (.sl 3 true [linr (lin0 l)]) := id rfl
      have hgl : h.length + 3 ≤ g.length := (List.getElem?_eq_some_iff.1 hs).1
      simp only [hii, ldl, bxl, fap31_4, ldd, f0, f0l, f1, ld3, bd78_0_1, hlit, bs, Option.bind_assoc]
      refine wap28 (ys := [linr (lin0 l)]) hgl ow (rowsOf_sl _ _ _ _) (by simp [-Option.bind_some]; omega) fun ld2 g3 ow3 len3 bel3 old3 _ => ?_
      have hs3 : g3[h.length + 2]? = some (.row ty31 10 [skr e ld]) := by rw [bel3 _ (by omega)]; exact hs
      try simp only [bs]
      refine wst28 (kk := 0) (row := skr e ld) hs3 (by rfl) (by rw [(one_cells (own_one ow3)).1]; rfl) (by simp [-Option.bind_some, skr]) (one_cells (own_one ow3)).2 fun g4 a5 w4 => ?_
      rw [(one_cells (own_one ow3)).1] at a5
      have a5 : g4[h.length + 2]? = some (.row ty31 10 [skr e ld2]) := a5
      simp only [bs, dBin_add, hw]
      refine .some (.inl ⟨rfl, kk - 1, by omega, _, _, n + 1, ld2, rfl, by omega, ?_, a5, ?_, fun q hx => ?_⟩)
      · rw [w4.2 _ (by omega), bel3 _ (by omega)]; exact hi
      · rw [List.take_add_one, hl, Option.toList_some, List.map_append, List.map_append]
        exact ow3.keep fun q hq hx => w4.2 q (by omega)
      · rw [w4.2 q (by omega), bel3 q (by omega)]; exact hq q hx
    · intro h0
      have h0 : n = e.ls.length := by have : ¬ (n : Int) < e.ls.length := by simpa [-Option.bind_some] using h0
                                      omega
      subst h0
      rw [List.take_length] at ow
      exact .some (.inr ⟨by simp [-Option.bind_some], rfl, _, _, _, ld, rfl, hi, hs, ow, hq⟩)
  · rintro ⟨ex, ds, g⟩ ⟨rfl, b1, b2, b3, ld, rfl, hi, hs, ow, hq⟩
    exact k g ld b1 b2 b3 hi hs ow hq
theorem s38 (l : List Rt) (d : D) (e : Ev) (h : Hp) (hd : SlOf 6 rtr l d) (hl : l.length ≤ 1000000000) (he : e.ls.length ≤ 1000000000) : ∃ i k, R fn38 [d, .agg (evr e)] h = some (.tup [.agg (itr i), .int .i64 k], h) ∧ ApR l e i k := by
  suffices Wp (R fn38 [d, .agg (evr e)] h) (fun p => p.2 = h ∧ ∃ i k, p.1 = .tup [.agg (itr i), .int .i64 k] ∧ ApR l e i k) by
    obtain ⟨⟨x, h'⟩, h1, rfl, i, k, rfl, h2⟩ := this
    exact ⟨i, k, h1, h2⟩
  have hz74 : ([.str [], .int .i64 0, .int .i64 0, .int .i64 0, .int .i64 0, .nils, .int .i64 0, .int .i64 0, .str [], .str [], .nils] : List D) = itr zit := rfl
  rw [e38]
  simp only [F38, hz74, wBox_agg ty31 10 h (evr e) rfl (by omega), bs, Option.bind_assoc]
  have a0 : (dNew h ty31 10 [evr e])[h.length]? = some (.row ty31 10 [evr e]) := dNew_get _ _ _ _
  have k0 : ∀ q, q < h.length → (dNew h ty31 10 [evr e])[q]? = h[q]? := fun q hq => dNew_old _ _ _ _ hq
  have n0 : (dNew h ty31 10 [evr e]).length = h.length + 1 := by simp [-Option.bind_some, dNew]
  generalize dNew h ty31 10 [evr e] = g0 at *
  have a1 : (dNew g0 ty74 11 [itr zit])[h.length + 1]? = some (.row ty74 11 [itr zit]) := by rw [← n0]; exact dNew_get _ _ _ _
  have b1 : (dNew g0 ty74 11 [itr zit])[h.length]? = some (.row ty31 10 [evr e]) := by rw [dNew_old _ _ _ _ (by omega)]; exact a0
  have k1 : ∀ q, q < h.length → (dNew g0 ty74 11 [itr zit])[q]? = h[q]? := fun q hq => by rw [dNew_old _ _ _ _ (by omega)]; exact k0 q hq
  have n1 : (dNew g0 ty74 11 [itr zit]).length = h.length + 2 := by simp [-Option.bind_some, dNew, n0]
  rw [n0]
  generalize dNew g0 ty74 11 [itr zit] = g1 at *
  have lde : dLoad tab g1 ty31 (.ptr h.length 0 0) = some (.agg (evr e)) := by rw [ldp31, row_of b1]; rfl
  have bxr : ∀ r : Rt, boxN 6 (.agg (rtr r)) = some (.fptr (rtr r)) := fun r => boxN_agg 6 _ rfl
  have r5 : ∀ r : Rt, dFieldAddr tab ty34 5 (.fptr (rtr r)) = some (.fptr [.bool r.dr]) := fun r => id rfl
  have r5l : ∀ (r : Rt) (g : Hp), dLoad tab g ty4 (.fptr [.bool r.dr]) = some (.bool r.dr) := fun r g => id rfl
  have r3 : ∀ r : Rt, dFieldAddr tab ty34 3 (.fptr (rtr r)) = some (.fptr [.str r.s, .int .i64 r.pr, .bool r.dr]) := fun r => id rfl
  have r4 : ∀ r : Rt, dFieldAddr tab ty34 4 (.fptr (rtr r)) = some (.fptr [.int .i64 r.pr, .bool r.dr]) := fun r => id rfl
  have r0 : ∀ r : Rt, dFieldAddr tab ty34 0 (.fptr (rtr r)) = some (.fptr (rtr r)) := fun r => id rfl
  have r0l : ∀ (r : Rt) (g : Hp), dLoad tab g ty9 (.fptr (rtr r)) = some (.str r.n) := fun r g => id rfl
  have lit1 : ∀ x : Ev, dBuild tab ty74 [1] [.agg (evr x)] = some (.agg (itr ⟨[], x⟩)) := fun x => id rfl
  simp only [lde, s13 l d e g1 hd hl, bs, dExtract_tup, List.getElem?_cons_zero, List.getElem?_cons_succ, bxr, dUn_not, fap31_8]
  cases hf : fit l e with
  | none =>
    simp only [Option.isSome_none, Bool.not_false, dIf_bool, if_true, Option.bind_assoc, bs]
    refine wst9 (kk := 0) (row := evr e) b1 (by rfl) (by rfl) (by simp [-Option.bind_some, evr]) (by rfl) fun g2 p2 w2 => ?_
    have p2 : g2[h.length]? = some (.row ty31 10 [evr (stre e [109, 97, 105, 110])]) := p2
    have q2 : g2[h.length + 1]? = some (.row ty74 11 [itr zit]) := by rw [w2.2 _ (by omega)]; exact a1
    have lde2 : dLoad tab g2 ty31 (.ptr h.length 0 0) = some (.agg (evr (stre e [109, 97, 105, 110]))) := by rw [ldp31, row_of p2]; rfl
    simp only [lde2, lit1, bs, Option.bind_assoc]
    refine wst74 (kk := 0) (off := 0) (row := itr zit) (v := .agg (itr ⟨[], stre e [109, 97, 105, 110]⟩)) q2 (by rfl) (by rfl) (by exact Nat.le_refl _) (itr_okv _) fun g3 p3 w3 => ?_
    have p3 : g3[h.length + 1]? = some (.row ty74 11 [itr ⟨[], stre e [109, 97, 105, 110]⟩]) := p3
    try simp only [bs]
    rw [ap_end p3 (fun q hq => by rw [w3.2 q (by omega), w2.2 q (by omega)]; exact k1 q hq)]
    exact .some ⟨rfl, _, _, rfl, ⟨fun _ => ⟨rfl, rfl⟩, fun r hr => (by rw [hf] at hr; cases hr), fun r hr => (by rw [hf] at hr; cases hr)⟩⟩
  | some r =>
    simp only [Option.isSome_some, Option.getD_some, Bool.not_true, dIf_bool, Bool.false_eq_true, if_false, r5, r5l, dUn_not, bs, Option.bind_assoc]
    cases hdr : r.dr with
    | false =>
      simp only [Bool.not_false, if_true, r3, ld9, bs, Option.bind_assoc]
      refine wst9 (kk := 0) (row := evr e) b1 (by rfl) (by rfl) (by simp [-Option.bind_some, evr]) (by rfl) fun g2 p2 w2 => ?_
      have p2 : g2[h.length]? = some (.row ty31 10 [evr (stre e r.s)]) := p2
      have q2 : g2[h.length + 1]? = some (.row ty74 11 [itr zit]) := by rw [w2.2 _ (by omega)]; exact a1
      have lde2 : dLoad tab g2 ty31 (.ptr h.length 0 0) = some (.agg (evr (stre e r.s))) := by rw [ldp31, row_of p2]; rfl
      simp only [lde2, lit1, r4, ld3, bs, Option.bind_assoc]
      refine wst74 (kk := 0) (off := 0) (row := itr zit) (v := .agg (itr ⟨[], stre e r.s⟩)) q2 (by rfl) (by rfl) (by exact Nat.le_refl _) (itr_okv _) fun g3 p3 w3 => ?_
      have p3 : g3[h.length + 1]? = some (.row ty74 11 [itr ⟨[], stre e r.s⟩]) := p3
      simp only [bs, ld3, chk_true]
      rw [ap_end p3 (fun q hq => by rw [w3.2 q (by omega), w2.2 q (by omega)]; exact k1 q hq)]
      refine .some ⟨rfl, _, _, rfl, ⟨fun hr => (by rw [hf] at hr; cases hr), fun x hx _ => ?_, fun x hx h1 => ?_⟩⟩
      · rw [hf] at hx; cases hx; exact ⟨rfl, rfl⟩
      · rw [hf] at hx; cases hx; rw [hdr] at h1; cases h1
    | true =>
      have lda : dLoad tab g1 ty3 (.ptr h.length 0 (0 + 0)) = some (.int .i64 e.a0) := by rw [ldp3, row_of b1]; rfl
      have ldb : dLoad tab g1 ty3 (.ptr h.length 0 (0 + 1)) = some (.int .i64 e.a1) := by rw [ldp3, row_of b1]; rfl
      have ldc : dLoad tab g1 ty3 (.ptr h.length 0 (0 + 2)) = some (.int .i64 e.a2) := by rw [ldp3, row_of b1]; rfl
      have ldd : dLoad tab g1 ty3 (.ptr h.length 0 (0 + 3)) = some (.int .i64 e.a3) := by rw [ldp3, row_of b1]; rfl
      simp only [Bool.not_true, Bool.false_eq_true, if_false, fap31_0, fap31_1, fap31_2, fap31_3, lda, ldb, ldc, ldd, bd31_0_1_2_3, bs, Option.bind_assoc, n1]
      have a2 : (dNew g1 ty31 10 [[.int .i64 0, .int .i64 0, .int .i64 0, .int .i64 0, .nils, .int .i64 0, .int .i64 0, .str [], .str [], .nils]])[h.length + 2]? = some (.row ty31 10 [[.int .i64 0, .int .i64 0, .int .i64 0, .int .i64 0, .nils, .int .i64 0, .int .i64 0, .str [], .str [], .nils]]) := by rw [← n1]; exact dNew_get _ _ _ _
      have k2 : ∀ q, q < h.length + 2 → (dNew g1 ty31 10 [[.int .i64 0, .int .i64 0, .int .i64 0, .int .i64 0, .nils, .int .i64 0, .int .i64 0, .str [], .str [], .nils]])[q]? = g1[q]? := fun q hq => dNew_old _ _ _ _ (by omega)
      generalize hp8 : ((D.ptr (h.length + 2) 0 0, dNew g1 ty31 10 [[.int .i64 0, .int .i64 0, .int .i64 0, .int .i64 0, .nils, .int .i64 0, .int .i64 0, .str [], .str [], .nils]]) : D × Hp) = p8
      have hp81 : p8.1 = .ptr (h.length + 2) 0 0 := by rw [← hp8]
      generalize dNew g1 ty31 10 [[.int .i64 0, .int .i64 0, .int .i64 0, .int .i64 0, .nils, .int .i64 0, .int .i64 0, .str [], .str [], .nils]] = g2 at *
      refine wst31 (kk := 0) (off := 0) (row := [.int .i64 0, .int .i64 0, .int .i64 0, .int .i64 0, .nils, .int .i64 0, .int .i64 0, .str [], .str [], .nils]) (v := .agg (skr e .nils)) a2 (by rfl) (by rfl) (by exact Nat.le_refl _) (by rfl) fun g3 p3 w3 => ?_
      have p3 : g3[h.length + 2]? = some (.row ty31 10 [skr e .nils]) := p3
      have b3 : g3[h.length]? = some (.row ty31 10 [evr e]) := by rw [w3.2 _ (by omega), k2 _ (by omega)]; exact b1
      have i3 : g3[h.length + 1]? = some (.row ty74 11 [itr zit]) := by rw [w3.2 _ (by omega), k2 _ (by omega)]; exact a1
      have k3 : ∀ q, q < h.length → g3[q]? = h[q]? := fun q hq => by rw [w3.2 q (by omega), k2 q (by omega)]; exact k1 q hq
      have ldl : dLoad tab g3 ty28 (.ptr h.length 0 (0 + 4)) = some e.ld := by rw [ldp28, row_of b3]; rfl
      simp only [fap31_4, ldl, lens28 e.hld, bs, Option.bind_assoc]
      refine l38 k3 i3 p3 he hp81 _ _ fun g4 ld x1 x2 x3 i4 p4 ow4 k4 => ?_
      have ld8 : dLoad tab g4 ty31 (.ptr (h.length + 2) 0 0) = some (.agg (skr e ld)) := by rw [ldp31, row_of p4]; rfl
      have lit2 : dBuild tab ty74 [0, 1] [.str r.n, .agg (skr e ld)] = some (.agg (.str r.n :: skr e ld)) := id rfl
      have hok : (D.agg (.str r.n :: skr e ld)).okv = true := by
        rcases ow4 with ⟨rfl, _⟩ | ⟨_, _, rfl, _⟩ <;> rfl
      simp only [unblk_self, toEnd_nrm, r0, r0l, hp81, ld8, lit2, r4, ld3, bs, Option.bind_assoc]
      refine wst74 (kk := 0) (off := 0) (row := itr zit) (v := .agg (.str r.n :: skr e ld)) i4 (by rfl) (by rfl) (by exact Nat.le_refl _) hok fun g5 p5 w5 => ?_
      have p5 : g5[h.length + 1]? = some (.row ty74 11 [.str r.n :: skr e ld]) := p5
      have ld5 : dLoad tab g5 ty74 (.ptr (h.length + 1) 0 0) = some (.agg (.str r.n :: skr e ld)) := by rw [ldp74, row_of p5]; rfl
      have ow5 : Own g5 (h.length + 3) ty78 3 ((e.ls.map lin0).map linr) ld := ow4.keep fun q hq _ => w5.2 q (by omega)
      have hsl := own_sl (n0 := h.length) (n := 1) ow5 (by omega) (fun a _ => linr_frz _ g5 1 a)
      have hgl : h.length ≤ g5.length := by have := (List.getElem?_eq_some_iff.1 p5).1; omega
      have hml : (e.ls.map lin0).length ≤ 9223372036854775807 := by simp [-Option.bind_some]; omega
      simp only [ld5, bs, chk_true, ld3, mkRes_two]
      rw [scope_eq (d' := .tup [.agg (itr ⟨r.n, ⟨e.a0, e.a1, e.a2, e.a3, e.ls.map lin0, frz h.length g5 2 ld, 0, 0, [], [], [], .nils, SlOf.nils _ _, by simp [-Option.bind_some], hsl, hml⟩⟩), .int .i64 r.pr]) rfl (by
        refine .tup _ fun d hd => ?_
        simp [-Option.bind_some] at hd
        rcases hd with rfl | rfl
        · exact itr_ok _ _
        · constructor) hgl (fun q hq => by rw [w5.2 q (by omega)]; exact k4 q hq)]
      refine .some ⟨rfl, _, _, rfl, ⟨fun hr => (by rw [hf] at hr; cases hr), fun x hx h1 => ?_, fun x hx _ => ?_⟩⟩
      · rw [hf] at hx; cases hx; rw [hdr] at h1; cases h1
      · rw [hf] at hx; cases hx; exact ⟨rfl, rfl, rfl, rfl, rfl, rfl, rfl, rfl, rfl, rfl, rfl, rfl⟩
theorem evr_okv (e : Ev) : (D.agg (evr e)).okv = true := by
  have o1 := slof_one e.hld
  have o2 := slof_one e.hfd
  have o3 : D.agg (evr e) = .agg [.int .i64 e.a0, .int .i64 e.a1, .int .i64 e.a2, .int .i64 e.a3, e.ld, .int .i64 e.a5, .int .i64 e.a6, .str e.s7, .str e.s8, e.fd] := rfl
  rw [o3]
  generalize e.ld = a at o1
  generalize e.fd = b at o2
  cases a <;> simp_all [-Option.bind_some, D.okv, D.one, cells1] <;> cases b <;> simp_all [-Option.bind_some, D.okv, D.one, cells1]
theorem stre_e {e : Ev} (h : EvM e) {s : Str} (hs : s.length ≤ 32) : evE (stre e s) = 0 := by
  have hk := h.k.good
  have htr := (show ∀ s ∈ lt98_15, ¬ 32 < s.length by decide) _ h.tr
  have hst := (show ∀ s ∈ lt98_16, ¬ 32 < s.length by decide) _ h.st
  have c1 : ¬ (32 < e.s7.length ∨ 32 < e.s8.length) := by rintro (h | h); exact htr h; exact hst h
  have c2 : ¬ (32 < (stre e s).s7.length ∨ 32 < (stre e s).s8.length) := by
    rintro (h | h)
    · exact htr h
    · have : 32 < s.length := h
      omega
  have key : evE (stre e s) = evE e := by
    unfold evE
    rw [if_neg c1, if_neg c2]
    rfl
  rw [key]; exact hk
theorem mch_0 : ∀ (ls : List Lin) (a b : Int), mch a ls b → mch a (ls.map lin0) b
  | [], a, b, h => h
  | x :: r, a, b, h => ⟨h.1, h.2.1, h.2.2.1, by simp [-Option.bind_some, lin0], mch_0 r _ b h.2.2.2.2⟩
/-- What RouteKeeps looks at. -/
structure ApF (e : Ev) (i : It) : Prop where
  a0 : i.e.a0 = e.a0
  a1 : i.e.a1 = e.a1
  a2 : i.e.a2 = e.a2
  a3 : i.e.a3 = e.a3
  ll : i.e.ls.length = e.ls.length
  fs : i.e.fs.length ≤ 20
  ok : itE i = 0
  ln : ∀ (n : Nat) (x y : Lin), i.e.ls[n]? = some x → e.ls[n]? = some y → x.off = y.off ∧ x.len = y.len ∧ ((!((!(i.r == [])) == (x.txt == []))) && !(y.txt == [])) = false
theorem apF_stre {e : Ev} (h : EvM e) {s : Str} (hs : s.length ≤ 32) : ApF e ⟨[], stre e s⟩ := by
  refine ⟨rfl, rfl, rfl, rfl, rfl, by have := mf_len h.fs; show e.fs.length ≤ 20; omega, ?_, fun n x y hx hy => ?_⟩
  · simp [-Option.bind_some, itE, stre_e h hs]
  · have hx : e.ls[n]? = some x := hx
    rw [hx] at hy
    injection hy with hy
    subst hy
    refine ⟨rfl, rfl, ?_⟩
    have : (([] : Str) == []) = true := rfl
    simp only [this]
    cases (x.txt == []) <;> rfl
theorem apF_of {l : List Rt} {e : Ev} {i : It} {k : Int} (he : EvM e) (hl : ∀ r ∈ l, RtK r) (h : ApR l e i k) : ApF e i := by
  cases hf : fit l e with
  | none =>
    obtain ⟨rfl, _⟩ := h.no hf
    exact apF_stre he (by decide)
  | some r =>
    have hr := hl r (List.mem_of_find?_eq_some hf)
    cases hd : r.dr with
    | false =>
      obtain ⟨rfl, _⟩ := h.keep r hf hd
      exact apF_stre he hr.st
    | true =>
      obtain ⟨_, q0, q1, q2, q3, q4, q5, q6, q7, q8, q9, q10⟩ := h.skip r hf hd
      have hn0 : i.r ≠ [] := by rw [q0]; exact hr.n0
      have hn9 : ¬ 32 < i.r.length := by rw [q0]; have := hr.n9; omega
      have hk := he.k
      have hch : mch i.e.a2 i.e.ls i.e.a3 := by rw [q3, q4, q5]; exact mch_0 _ _ _ he.ch
      have hle := mch_le _ _ _ hch
      have hll : i.e.ls.length = e.ls.length := by rw [q5]; simp [-Option.bind_some]
      have h1 := hk.h0; have h2 := hk.h2; have h3 := hk.f0; have h4 := hk.f2; have h5 := hk.a0; have h6 := hk.b9; have h7 := hk.l1; have h10 := hk.l3
      have hp : plB i.e = true := by
        simp [-Option.bind_some, plB]
        omega
      have hlm := lines_mch 60000 (by omega) (by omega) (by omega) (by omega) (by omega) hch
      have htx : ∀ x ∈ i.e.ls, x.txt = [] := fun x hx => by
        rw [q5] at hx
        obtain ⟨y, _, rfl⟩ := List.mem_map.1 hx
        rfl
      have ha : (i.e.ls.any fun p => !(p.txt == [])) = false := by
        rw [List.any_eq_false]
        intro p hp
        simp [-Option.bind_some, htx p hp]
      refine ⟨q1, q2, q3, q4, hll, by rw [q10]; simp [-Option.bind_some], ?_, fun n x y hx hy => ?_⟩
      · simp [-Option.bind_some, itE, hn0, hn9, hp, hlm, q6, q7, q8, q9, q10]
        exact htx
      · have hx2 := hx
        rw [q5, List.getElem?_map, hy] at hx2
        injection hx2 with hx2
        subst hx2
        refine ⟨rfl, rfl, ?_⟩
        have hb : (i.r == []) = false := by simpa [-Option.bind_some] using hn0
        have ht : ((lin0 y).txt == []) = true := rfl
        rw [hb, ht]
        rfl
def ae9 : Ev := ⟨0, 0, 0, 3, [⟨0, 3, []⟩], .sl 3 true [[.int .i64 0, .int .i64 3, .str []]], 0, 1, [], [], [], .nils, SlOf.nils _ _, by simp [-Option.bind_some], SlOf.mk 3 linr [⟨0, 3, []⟩] true, by simp [-Option.bind_some]⟩
theorem evR8 (e : Ev) : dFieldAddr tab ty31 8 (.fptr (evr e)) = some (.fptr [.str e.s8, e.fd]) := id rfl
theorem s9w (h : Hp) : R fn9 [] h = some (.bool true, h) := by
  obtain ⟨i, k, e1, ha⟩ := s38 [] .nils ae9 h (SlOf.nils _ _) (by simp [-Option.bind_some]) (by decide)
  obtain ⟨rfl, rfl⟩ := ha.no rfl
  have hb : dBuild tab ty31 [3, 6, 4] [.int .i64 3, .int .i64 1, .sl 3 true [[.int .i64 0, .int .i64 3, .str []]]] = some (.agg (evr ae9)) := id rfl
  have hs : (stre ae9 [109, 97, 105, 110]).s8 = [109, 97, 105, 110] := rfl
  rw [e9]
  simp only [F9, bd78_1, bs28_1, hb, e1, bs, dExtract_tup, List.getElem?_cons_zero, List.getElem?_cons_succ, boxIt, itF1, evR8, ld9, hs, dBin_seql, beq_self_eq_true, gd_bool, if_true, dBin_eql, decide_true, dPick_bool, itF0, itL0, mkRes_one]
theorem evX0 (e : Ev) : dFieldAddr tab ty31 0 (.fptr (evr e)) = some (.fptr (evr e)) := id rfl
theorem evX0l (e : Ev) (g : Hp) : dLoad tab g ty3 (.fptr (evr e)) = some (.int .i64 e.a0) := id rfl
theorem evX1 (e : Ev) : dFieldAddr tab ty31 1 (.fptr (evr e)) = some (.fptr [.int .i64 e.a1, .int .i64 e.a2, .int .i64 e.a3, e.ld, .int .i64 e.a5, .int .i64 e.a6, .str e.s7, .str e.s8, e.fd]) := id rfl
theorem evX2 (e : Ev) : dFieldAddr tab ty31 2 (.fptr (evr e)) = some (.fptr [.int .i64 e.a2, .int .i64 e.a3, e.ld, .int .i64 e.a5, .int .i64 e.a6, .str e.s7, .str e.s8, e.fd]) := id rfl
theorem evX3 (e : Ev) : dFieldAddr tab ty31 3 (.fptr (evr e)) = some (.fptr [.int .i64 e.a3, e.ld, .int .i64 e.a5, .int .i64 e.a6, .str e.s7, .str e.s8, e.fd]) := id rfl
theorem evX4 (e : Ev) : dFieldAddr tab ty31 4 (.fptr (evr e)) = some (.fptr [e.ld, .int .i64 e.a5, .int .i64 e.a6, .str e.s7, .str e.s8, e.fd]) := id rfl
theorem evXl (e : Ev) (g : Hp) : dLoad tab g ty31 (.fptr (evr e)) = some (.agg (evr e)) := id rfl
theorem evXb (e : Ev) : boxN 10 (.agg (evr e)) = some (.fptr (evr e)) := boxN_agg 10 _ rfl
theorem lnX0 (l : Lin) : dFieldAddr tab ty78 0 (.fptr (linr l)) = some (.fptr (linr l)) := id rfl
theorem lnX0l (l : Lin) (g : Hp) : dLoad tab g ty3 (.fptr (linr l)) = some (.int .i64 l.off) := id rfl
theorem lnX1 (l : Lin) : dFieldAddr tab ty78 1 (.fptr (linr l)) = some (.fptr [.int .i64 l.len, .str l.txt]) := id rfl
theorem lnX2 (l : Lin) : dFieldAddr tab ty78 2 (.fptr (linr l)) = some (.fptr [.str l.txt]) := id rfl
theorem rtX5 (r : Rt) : dFieldAddr tab ty34 5 (.fptr (rtr r)) = some (.fptr [.bool r.dr]) := id rfl
theorem rtX5l (r : Rt) (g : Hp) : dLoad tab g ty4 (.fptr [.bool r.dr]) = some (.bool r.dr) := id rfl
theorem rtX4 (r : Rt) : dFieldAddr tab ty34 4 (.fptr (rtr r)) = some (.fptr [.int .i64 r.pr, .bool r.dr]) := id rfl
theorem rtX3 (r : Rt) : dFieldAddr tab ty34 3 (.fptr (rtr r)) = some (.fptr [.str r.s, .int .i64 r.pr, .bool r.dr]) := id rfl
theorem rtX0 (r : Rt) : dFieldAddr tab ty34 0 (.fptr (rtr r)) = some (.fptr (rtr r)) := id rfl
theorem rtX0l (r : Rt) (g : Hp) : dLoad tab g ty9 (.fptr (rtr r)) = some (.str r.n) := id rfl
theorem rtXb (r : Rt) : boxN 6 (.agg (rtr r)) = some (.fptr (rtr r)) := boxN_agg 6 _ rfl
theorem itX1 (x : Ev) : dBuild tab ty74 [1] [.agg (evr x)] = some (.agg (itr ⟨[], x⟩)) := id rfl
theorem l1165 {e : Ev} {i : It} {g : Hp} {o : Nat} (F : ApF e i) (ho : g[o]? = some (.row ty31 10 [evr e])) (he : e.ls.length ≤ 1000000000) {p5 : D × Hp} (hp5 : p5.1 = .ptr o 0 0) (x1 x2 x3 : D) {β : Type} {K : Out → Option β} {Q : β → Prop}
    (k : ∀ b1 b2 b3 b4, Wp (K (.ext 0, [.bool false, b1, b2, b3, b4], g)) Q) : Wp ((loopW (F1165_L0 p5 (.fptr (itr i)) (.fptr (evr i.e)) (.int .i64 i.e.ls.length)) [.bool false, x1, .int .i64 0, x2, x3] g).bind K) Q := by
  have ldo : dLoad tab g ty28 (.ptr o 0 (0 + 4)) = some e.ld := by rw [ldp28, row_of ho]; rfl
  have hll := F.ll
  refine Wp.loop (fun kk ds g' => g' = g ∧ ∃ a1 a3 a4, ∃ n : Nat, ds = [.bool false, a1, .int .i64 n, a3, a4] ∧ kk + n = i.e.ls.length)
    (fun r => r.1 = .ext 0 ∧ r.2.2 = g ∧ ∃ b1 b2 b3 b4, r.2.1 = [.bool false, b1, b2, b3, b4]) i.e.ls.length ⟨rfl, _, _, _, 0, rfl, rfl⟩ ?_ ?_
  · rintro kk ds g' ⟨rfl, a1, a3, a4, n, rfl, hk⟩
    simp only [F1165_L0, nth_zero, nth_succ, bs, Option.bind_assoc, dBin_lss, hp5]
    refine Wp.dif ?_ ?_
    · intro h0
      have h0 : n < i.e.ls.length := by have : (n : Int) < i.e.ls.length := by simpa [-Option.bind_some] using h0
                                        omega
      obtain ⟨x, hx⟩ : ∃ x, i.e.ls[n]? = some x := ⟨_, List.getElem?_eq_getElem h0⟩
      obtain ⟨y, hy⟩ : ∃ y, e.ls[n]? = some y := ⟨_, List.getElem?_eq_getElem (by omega)⟩
      obtain ⟨f1, f2, f3⟩ := F.ln n x y hx hy
      have hw : IntKind.wrap .i64 ((n : Int) + 1) = ((n + 1 : Nat) : Int) := by
        rw [wrap_i64 (by omega) (by omega)]; omega
      have hii : dIndexAddr tab ty28 i.e.ld (.int .i64 (n : Int)) = some (.fptr (linr x)) := by rw [ixs28 i.e.hld]; simp [-Option.bind_some, hx]
      have hjj : dIndexAddr tab ty28 e.ld (.int .i64 (n : Int)) = some (.fptr (linr y)) := by rw [ixs28 e.hld]; simp [-Option.bind_some, hy]
      simp only [evX4, ld28, hii, lnX0, lnX0l, fap31_4, ldo, hjj, f1, dBin_neq, ne_eq, not_true, decide_false, gd_bool, if_true, bs, lnX1, ld3, f2, dPick_bool, Bool.false_eq_true, if_false, itF0, itL0, dBin_sneq, lnX2, ld9, dBin_seql, bneq4]
      generalize (i.r == []) = u1 at f3
      generalize (x.txt == []) = u2 at f3
      generalize hu3 : (y.txt == []) = u3 at f3
      cases u1 <;> cases u2 <;> cases u3 <;> try exact absurd f3 (by decide)
      all_goals (
        simp only [Bool.not_true, Bool.not_false, show (true == true) = true from rfl, show (true == false) = false from rfl, show (false == true) = false from rfl, show (false == false) = true from rfl, gd_bool, if_true, Bool.false_eq_true, reduceCtorEq, if_false, bs, fap31_4, ldo, hjj, lnX2, ld9, dPick_bool, dIf_bool, dBin_add, hw, dBin_sneq, gd_und, hu3]
        exact .some (.inl ⟨rfl, kk - 1, by omega, rfl, _, _, _, n + 1, rfl, by omega⟩))
    · intro h0
      exact .some (.inr ⟨by simp [-Option.bind_some], rfl, rfl, _, _, _, _, rfl⟩)
  · rintro ⟨ex, ds, g'⟩ ⟨rfl, q2, b1, b2, b3, b4, rfl⟩
    simp only at q2
    subst q2
    exact k _ _ _ _
theorem law1165 (zs : List Int) (d : D) (hd : Given .u8 zs d) (hz : ∀ z ∈ zs, 0 ≤ z ∧ z < 256) (hzl : zs.length ≤ 9223372036854775807) : ∃ h', R fn1165 [d] [] = some (.bool true, h') := by
  suffices Wp (R fn1165 [d] []) (fun p => p.1 = .bool true) by
    obtain ⟨⟨x, h'⟩, h1, rfl⟩ := this
    exact ⟨h', h1⟩
  rw [e1165]
  simp only [F1165, bs, s9w, dUn_not, Bool.not_true, dIf_bool, Bool.false_eq_true, if_false, Option.bind_assoc]
  obtain ⟨h1, e1, c1, l1, b1⟩ := m10 zs d 160 [] hd (by omega) (by omega) hz hzl
  refine Wp.step e1 ?_
  simp only [bs]
  obtain ⟨x, h2, e2, c2, s2, l, hl, hl3, hlk⟩ := m11 c1
  refine Wp.step e2 ?_
  simp only [bs]
  obtain ⟨e, h3, e3, c3, s3, he⟩ := m12 c2
  refine Wp.step e3 ?_
  have hel := he.l3
  have hz31 : ([.int .i64 0, .int .i64 0, .int .i64 0, .int .i64 0, .nils, .int .i64 0, .int .i64 0, .str [], .str [], .nils] : List D) = evr zit.e := rfl
  simp only [bs, hz31]
  have a0 : (dNew h3 ty31 10 [evr zit.e])[h3.length]? = some (.row ty31 10 [evr zit.e]) := dNew_get _ _ _ _
  generalize hp5 : ((D.ptr h3.length 0 0, dNew h3 ty31 10 [evr zit.e]) : D × Hp) = p5
  have hp51 : p5.1 = .ptr h3.length 0 0 := by rw [← hp5]
  generalize h3.length = o at *
  generalize dNew h3 ty31 10 [evr zit.e] = g0 at *
  refine wst31 (kk := 0) (off := 0) (row := evr zit.e) (v := .agg (evr e)) a0 (by rfl) (by rfl) (by exact Nat.le_refl _) (evr_okv e) fun g p w => ?_
  have p : g[o]? = some (.row ty31 10 [evr e]) := p
  have lde : dLoad tab g ty31 (.ptr o 0 0) = some (.agg (evr e)) := by rw [ldp31, row_of p]; rfl
  have ld0 : dLoad tab g ty3 (.ptr o 0 (0 + 0)) = some (.int .i64 e.a0) := by rw [ldp3, row_of p]; rfl
  have ld1 : dLoad tab g ty3 (.ptr o 0 (0 + 1)) = some (.int .i64 e.a1) := by rw [ldp3, row_of p]; rfl
  have ld2 : dLoad tab g ty3 (.ptr o 0 (0 + 2)) = some (.int .i64 e.a2) := by rw [ldp3, row_of p]; rfl
  have ld3' : dLoad tab g ty3 (.ptr o 0 (0 + 3)) = some (.int .i64 e.a3) := by rw [ldp3, row_of p]; rfl
  have ld4 : dLoad tab g ty28 (.ptr o 0 (0 + 4)) = some e.ld := by rw [ldp28, row_of p]; rfl
  obtain ⟨i, k, e38', ha⟩ := s38 l x e g hl (by omega) (by omega)
  have F := apF_of he hlk ha
  have hck := s1042 i g F.fs
  rw [F.ok] at hck
  simp only [bs, hp51, lde, e38', dExtract_tup, List.getElem?_cons_zero, List.getElem?_cons_succ, boxIt, s13 l x e g hl (by omega), rtXb, itF1, evXl, evXb, evX0, evX0l, evX1, evX2, evX3, evX4, fap31_0, fap31_1, fap31_2, fap31_3, fap31_4, ld0, ld1, ld2, ld3', ld4, ld3, ld28, F.a0, F.a1, F.a2, F.a3, dBin_neq, ne_eq, not_true, decide_false, gd_bool, gdW_bool, if_true, dPick_bool, Bool.false_eq_true, if_false, lens28 i.e.hld, lens28 e.hld, F.ll, ldIt, hck, dIf_bool, Option.bind_assoc]
  have hloop := @l1165 e i g o F p (by omega) p5 hp51
  rw [F.ll] at hloop
  refine hloop _ _ _ fun b1 b2 b3 b4 => ?_
  simp only [unblk_self, toEnd_nrm, bs, Option.bind_assoc]
  cases hf : fit l e with
  | none =>
    obtain ⟨rfl, rfl⟩ := ha.no hf
    simp only [Option.isSome_none, Option.getD_none, gd_bool, Bool.false_eq_true, reduceCtorEq, if_false, bs, dPick_bool, dIf_bool, toEnd_nrm, nth_zero, fap31_8, hp51, Option.bind_assoc]
    refine wst9 (kk := 0) (row := evr e) p (by rfl) (by rfl) (by simp [-Option.bind_some, evr]) (by rfl) fun g2 p2 w2 => ?_
    have p2 : g2[o]? = some (.row ty31 10 [evr (stre e [109, 97, 105, 110])]) := p2
    have lde2 : dLoad tab g2 ty31 (.ptr o 0 0) = some (.agg (evr (stre e [109, 97, 105, 110]))) := by rw [ldp31, row_of p2]; rfl
    simp only [itF0, itL0, dBin_seql, beq_self_eq_true, gd_bool, gdW_bool, if_true, bs, rtX4, ld3, rtZ, dBin_eql, decide_true, dPick_bool, ldIt, lde2, itX1, s82, sameI_refl, mkRes_one, scope_nil]
    exact .some rfl
  | some r =>
    cases hdr : r.dr with
    | true =>
      obtain ⟨q1, q2, _⟩ := ha.skip r hf hdr
      simp only [Option.isSome_some, Option.getD_some, gd_bool, if_true, bs, rtX5, rtX5l, hdr, dPick_bool, dIf_bool, itF0, itL0, rtX0, rtX0l, q2, dBin_seql, beq_self_eq_true, rtX4, ld3, q1, dBin_eql, decide_true, mkRes_one, scope_nil]
      exact .some rfl
    | false =>
      obtain ⟨rfl, rfl⟩ := ha.keep r hf hdr
      simp only [Option.isSome_some, Option.getD_some, gd_bool, if_true, bs, rtX5, rtX5l, hdr, dPick_bool, dIf_bool, Bool.false_eq_true, if_false, rtX3, ld9, toEnd_nrm, nth_zero, fap31_8, hp51, Option.bind_assoc]
      refine wst9 (kk := 0) (row := evr e) p (by rfl) (by rfl) (by simp [-Option.bind_some, evr]) (by rfl) fun g2 p2 w2 => ?_
      have p2 : g2[o]? = some (.row ty31 10 [evr (stre e r.s)]) := p2
      have lde2 : dLoad tab g2 ty31 (.ptr o 0 0) = some (.agg (evr (stre e r.s))) := by rw [ldp31, row_of p2]; rfl
      simp only [itF0, itL0, dBin_seql, beq_self_eq_true, gd_bool, gdW_bool, if_true, bs, rtX4, ld3, dBin_eql, decide_true, dPick_bool, ldIt, lde2, itX1, s82, sameI_refl, mkRes_one, scope_nil]
      exact .some rfl
end Go.Proofs.YtmbjebbjeaafgaaDoor
