/- Laws, on plain data, about functions that the statement reaches. -/
import Derived.Test.YtlpedofpnbggbaaDoorL1
set_option linter.unusedSimpArgs false
set_option linter.unusedVariables false
set_option linter.unnecessarySimpa false
set_option maxRecDepth 100000
namespace Go.Proofs.YtlpedofpnbggbaaDoor
open Go.Eng Go.Pi
open Option (bind_some)
def lnE (to_ most : Int) : Int → List Lin → Int
  | _, [] => 0
  | at_, l :: r => if l.off = at_ ∧ ¬ l.len < 1 ∧ ¬ IntKind.wrap .i64 (to_ - at_) < l.len ∧ ¬ (r = [] ∧ l.len < IntKind.wrap .i64 (to_ - at_)) then (if most < l.txt.length then 3 else lnE to_ most (IntKind.wrap .i64 (at_ + l.len)) r) else 19
def linesE (e : Ev) (most : Int) : Int := if e.ls.length = 0 then 9 else if 40 < e.ls.length then 4 else lnE e.a3 most e.a2 e.ls
theorem s1048 (e : Ev) (m : Int) (h : Hp) : R fn1048 [.agg (evr e), .int .i64 m] h = some (.int .i64 (linesE e m), h) := by
  suffices Wp (R fn1048 [.agg (evr e), .int .i64 m] h) (fun p => p = (.int .i64 (linesE e m), h)) by
    obtain ⟨p, h1, rfl⟩ := this
    exact h1
  have sc : ∀ (g : Hp) (v : Int), h.length ≤ g.length → (∀ q, q < h.length → g[q]? = h[q]?) → scope h g (.int .i64 v) = some (.int .i64 v, h) := fun g v h1 h2 => scope_eq (by simp) (.int _ _) h1 h2
  rw [e1048]
  simp only [F1048, pBoxF_agg, bs, Option.bind_assoc, evr, fa31_4, fa31_2, ld28, ld3, lens28 e.hld, dBin_eql, dBin_gtr, mkRes_one]
  by_cases g0 : e.ls.length = 0
  · have g0' : (e.ls.length : Int) = 0 := by omega
    simp only [g0', decide_true, dIf_bool, if_true, sc h _ (Nat.le_refl _) (fun _ _ => rfl)]
    exact .some (by simp [-bind_some, linesE, g0])
  by_cases g4 : 40 < e.ls.length
  · have g0' : ¬ (e.ls.length : Int) = 0 := by omega
    have g4' : (40 : Int) < (e.ls.length : Int) := by omega
    simp only [g0', g4', decide_true, decide_false, Bool.false_eq_true, if_false, dIf_bool, if_true, sc h _ (Nat.le_refl _) (fun _ _ => rfl)]
    exact .some (by simp [-bind_some, linesE, g0, g4])
  have g0' : ¬ (e.ls.length : Int) = 0 := by omega
  have g4' : ¬ (40 : Int) < (e.ls.length : Int) := by omega
  have hE : linesE e m = lnE e.a3 m e.a2 e.ls := by simp [-bind_some, linesE, g0, g4]
  rw [hE]
  generalize hV : lnE e.a3 m e.a2 e.ls = V
  simp only [g0', g4', decide_true, decide_false, Bool.false_eq_true, if_false, dIf_bool, if_true]
  refine Wp.loop (fun k ds g => h.length ≤ g.length ∧ (∀ q, q < h.length → g[q]? = h[q]?) ∧ ∃ a b c d f u v, ∃ at_ : Int, ∃ i : Nat, ds = [a, .int .i64 at_, b, c, d, .int .i64 i, f, u, v] ∧ k + i = e.ls.length ∧ lnE e.a3 m at_ (e.ls.drop i) = V)
      (fun x => h.length ≤ x.2.2.length ∧ (∀ q, q < h.length → x.2.2[q]? = h[q]?) ∧ ((x.1 = .ext 1 ∧ V = 0) ∨ (x.1 = .ret ∧ nth 0 x.2.1 = .int .i64 V))) e.ls.length ⟨Nat.le_refl _, fun _ _ => rfl, _, _, _, _, _, _, _, _, 0, rfl, rfl, hV⟩ ?_ ?_
  · rintro k ds g ⟨hgl, hgb, a, b, c, d, f, u, v, at_, i, rfl, hk, hch⟩
    simp only [F1048_L0, nth_zero, nth_succ, bs, Option.bind_assoc, fa31_4, fa31_3, ld28, ld3, lens28 e.hld, dBin_lss]
    refine Wp.dif ?_ ?_
    · intro h0
      have h0 : i < e.ls.length := by have : (i : Int) < e.ls.length := by simpa using h0
                                      omega
      have hg : e.ls[i]? = some e.ls[i] := List.getElem?_eq_getElem h0
      have hw : IntKind.wrap .i64 ((i : Int) + 1) = ((i + 1 : Nat) : Int) := by
        rw [wrap_i64 (by omega) (by omega)]; omega
      have hw4 : IntKind.wrap .i64 ((e.ls.length : Int) - 1) = (e.ls.length : Int) - 1 := wrap_i64 (by omega) (by omega)
      have hlast : (e.ls.drop (i + 1) = []) ↔ (i : Int) = (e.ls.length : Int) - 1 := by
        rw [List.drop_eq_nil_iff]; omega
      rw [List.drop_eq_getElem_cons h0] at hch
      generalize e.ls[i] = x at hg hch
      generalize hrest : e.ls.drop (i + 1) = rest at hch hlast
      simp only [ixs28 e.hld, Int.natCast_nonneg, if_true, Int.toNat_natCast, hg, Option.map_some, bs, linr_ld]
      generalize hg2 : dNew g ty78 3 [[.int .i64 0, .int .i64 0, .str []]] = g2
      have p1 : g2[g.length]? = some (.row ty78 3 [[.int .i64 0, .int .i64 0, .str []]]) := by rw [← hg2]; exact new_get _ _ _ _
      have hb2 : ∀ q, q < g.length → g2[q]? = g[q]? := fun q hq => by rw [← hg2]; exact new_old _ _ _ _ hq
      have hl2 : g2.length = g.length + 1 := by rw [← hg2]; exact new_len _ _ _ _
      clear hg2
      refine wst78 p1 (by rfl) (by rfl) (by simp) (by rfl) fun g3 p3 sg => ?_
      replace p3 : g3[g.length]? = some (.row ty78 3 [linr x]) := p3
      have hgl3 : h.length ≤ g3.length := by have := sg.1; omega
      have hgb3 : ∀ q, q < h.length → g3[q]? = h[q]? := fun q hq => ((sg.2 q (by omega)).trans (hb2 q (by omega))).trans (hgb q hq)
      clear p1 hb2 hl2 sg hgb
      have r3 : g3.row g.length 0 = some [.int .i64 x.off, .int .i64 x.len, .str x.txt] := row_of p3
      simp only [bs, fap78_0, fap78_1, fap78_2, Nat.zero_add, ldp3, ldp9, r3, List.drop_succ_cons, List.drop_zero, List.head?_cons, dBin_sub, hw4, dBin_eql, dBin_neq, len9, dBin_gtr, dBin_lss]
      unfold lnE at hch
      by_cases q1 : x.off = at_
      · by_cases q2 : x.len < 1
        · rw [if_neg (fun hh => hh.2.1 q2)] at hch
          simp only [q1, q2, ne_eq, not_true, decide_false, decide_true, gd_bool, if_true, if_false, Bool.false_eq_true, reduceCtorEq, bs, dPick_bool, dIf_bool, fa31_3, ld3, fap78_0, fap78_1, fap78_2, Nat.zero_add, ldp3, ldp9, r3, List.drop_succ_cons, List.drop_zero, List.head?_cons, dBin_sub, hw4, dBin_eql, dBin_neq, len9, dBin_gtr, dBin_lss]
          exact .some (.inr ⟨by simp, hgl3, hgb3, .inr ⟨rfl, by simp [-bind_some, hch]⟩⟩)
        · by_cases q3 : IntKind.wrap .i64 (e.a3 - at_) < x.len
          · rw [if_neg (fun hh => hh.2.2.1 q3)] at hch
            simp only [q1, q2, q3, ne_eq, not_true, decide_false, decide_true, gd_bool, if_true, if_false, Bool.false_eq_true, reduceCtorEq, bs, dPick_bool, dIf_bool, fa31_3, ld3, fap78_0, fap78_1, fap78_2, Nat.zero_add, ldp3, ldp9, r3, List.drop_succ_cons, List.drop_zero, List.head?_cons, dBin_sub, hw4, dBin_eql, dBin_neq, len9, dBin_gtr, dBin_lss]
            exact .some (.inr ⟨by simp, hgl3, hgb3, .inr ⟨rfl, by simp [-bind_some, hch]⟩⟩)
          · by_cases hi : (i : Int) = (e.ls.length : Int) - 1
            · have hid : decide ((i : Int) = (e.ls.length : Int) - 1) = true := by simpa using hi
              by_cases q4 : x.len < IntKind.wrap .i64 (e.a3 - at_)
              · rw [if_neg (fun hh => hh.2.2.2 ⟨hlast.2 hi, q4⟩)] at hch
                simp only [q1, q2, q3, hid, ne_eq, not_true, not_false_eq_true, decide_false, decide_true, gd_bool, gd_und, if_true, if_false, Bool.false_eq_true, reduceCtorEq, bs, dPick_bool, dIf_bool, fa31_3, ld3, fap78_0, fap78_1, fap78_2, Nat.zero_add, ldp3, ldp9, r3, List.drop_succ_cons, List.drop_zero, List.head?_cons, dBin_sub, hw4, dBin_eql, dBin_neq, len9, dBin_gtr, dBin_lss, q4]
                exact .some (.inr ⟨by simp, hgl3, hgb3, .inr ⟨rfl, by simp [-bind_some, hch]⟩⟩)
              · rw [if_pos ⟨q1, q2, q3, fun hh => q4 hh.2⟩] at hch
                by_cases q5 : m < (x.txt.length : Int)
                · rw [if_pos q5] at hch
                  simp only [q1, q2, q3, hid, ne_eq, not_true, not_false_eq_true, decide_false, decide_true, gd_bool, gd_und, if_true, if_false, Bool.false_eq_true, reduceCtorEq, bs, dPick_bool, dIf_bool, fa31_3, ld3, fap78_0, fap78_1, fap78_2, Nat.zero_add, ldp3, ldp9, r3, List.drop_succ_cons, List.drop_zero, List.head?_cons, dBin_sub, hw4, dBin_eql, dBin_neq, len9, dBin_gtr, dBin_lss, q4, q5]
                  exact .some (.inr ⟨by simp, hgl3, hgb3, .inr ⟨rfl, by simp [-bind_some, hch]⟩⟩)
                · rw [if_neg q5] at hch
                  simp only [q1, q2, q3, hid, ne_eq, not_true, not_false_eq_true, decide_false, decide_true, gd_bool, gd_und, if_true, if_false, Bool.false_eq_true, reduceCtorEq, bs, dPick_bool, dIf_bool, fa31_3, ld3, fap78_0, fap78_1, fap78_2, Nat.zero_add, ldp3, ldp9, r3, List.drop_succ_cons, List.drop_zero, List.head?_cons, dBin_sub, hw4, dBin_eql, dBin_neq, len9, dBin_gtr, dBin_lss, q4, q5, dBin_add, hw]
                  exact .some (.inl ⟨rfl, k - 1, by omega, hgl3, hgb3, _, _, _, _, _, _, _, _, i + 1, rfl, by omega, by rw [hrest]; exact hch⟩)
            · rw [if_pos ⟨q1, q2, q3, fun hh => hi (hlast.1 hh.1)⟩] at hch
              have q4 : True := trivial
              by_cases q5 : m < (x.txt.length : Int)
              · rw [if_pos q5] at hch
                simp only [q1, q2, q3, hi, ne_eq, not_true, not_false_eq_true, decide_false, decide_true, gd_bool, gd_und, if_true, if_false, Bool.false_eq_true, reduceCtorEq, bs, dPick_bool, dIf_bool, fa31_3, ld3, fap78_0, fap78_1, fap78_2, Nat.zero_add, ldp3, ldp9, r3, List.drop_succ_cons, List.drop_zero, List.head?_cons, dBin_sub, hw4, dBin_eql, dBin_neq, len9, dBin_gtr, dBin_lss, q4, q5]
                exact .some (.inr ⟨by simp, hgl3, hgb3, .inr ⟨rfl, by simp [-bind_some, hch]⟩⟩)
              · rw [if_neg q5] at hch
                simp only [q1, q2, q3, hi, ne_eq, not_true, not_false_eq_true, decide_false, decide_true, gd_bool, gd_und, if_true, if_false, Bool.false_eq_true, reduceCtorEq, bs, dPick_bool, dIf_bool, fa31_3, ld3, fap78_0, fap78_1, fap78_2, Nat.zero_add, ldp3, ldp9, r3, List.drop_succ_cons, List.drop_zero, List.head?_cons, dBin_sub, hw4, dBin_eql, dBin_neq, len9, dBin_gtr, dBin_lss, q4, q5, dBin_add, hw]
                exact .some (.inl ⟨rfl, k - 1, by omega, hgl3, hgb3, _, _, _, _, _, _, _, _, i + 1, rfl, by omega, by rw [hrest]; exact hch⟩)
      · rw [if_neg (fun hh => q1 hh.1)] at hch
        simp only [q1, ne_eq, not_false_eq_true, decide_false, decide_true, gd_bool, if_true, if_false, Bool.false_eq_true, reduceCtorEq, bs, dPick_bool, dIf_bool, fa31_3, ld3, fap78_0, fap78_1, fap78_2, Nat.zero_add, ldp3, ldp9, r3, List.drop_succ_cons, List.drop_zero, List.head?_cons, dBin_sub, hw4, dBin_eql, dBin_neq, len9, dBin_gtr, dBin_lss]
        exact .some (.inr ⟨by simp, hgl3, hgb3, .inr ⟨rfl, by simp [-bind_some, hch]⟩⟩)
    · intro h0
      have h0 : ¬ i < e.ls.length := by have : ¬ (i : Int) < e.ls.length := by simpa using h0
                                        omega
      rw [List.drop_of_length_le (by omega)] at hch
      exact .some (.inr ⟨by simp, hgl, hgb, .inl ⟨rfl, hch.symm⟩⟩)
  · rintro ⟨ex, ds, g⟩ ⟨h1, h2, hc⟩
    simp only at h1 h2 hc
    rcases hc with ⟨rfl, rfl⟩ | ⟨rfl, hc⟩
    · simp only [unblk_self, toEnd_nrm, bs, mkRes_one, sc g 0 h1 h2]
      exact .some rfl
    · simp only [unblk_ret, toEnd_ret, exEnd_ret, nth_zero, bs, hc, mkRes_one, sc g V h1 h2]
      exact .some rfl
def dn {α : Type} (c : α → α → Int) (a : Nat) : Nat → List α → List α
  | 0, l => l
  | j + 1, l => match l[j + 1]?, l[j]? with
    | some x, some y => if a < j + 1 ∧ c x y < 0 then dn c a j ((l.set (j + 1) y).set j x) else l
    | _, _ => l
theorem dn_len {α : Type} (c : α → α → Int) (a : Nat) : ∀ (j : Nat) (l : List α), (dn c a j l).length = l.length
  | 0, l => rfl
  | j + 1, l => by
    unfold dn
    split
    · split
      · rw [dn_len c a j]; simp [-bind_some]
      · rfl
    · rfl
def isr {α : Type} (c : α → α → Int) (a : Nat) : Nat → Nat → List α → List α
  | _, 0, l => l
  | i, n + 1, l => isr c a (i + 1) n (dn c a i l)
theorem isr_len {α : Type} (c : α → α → Int) (a : Nat) : ∀ (n i : Nat) (l : List α), (isr c a i n l).length = l.length
  | 0, i, l => rfl
  | n + 1, i, l => by
    unfold isr
    rw [isr_len c a n, dn_len]
theorem set_map_row {α : Type} (f : α → List D) (l : List α) (i : Nat) (x : α) : (l.map f).set i (f x) = (l.set i x).map f := by rw [List.map_set]
theorem ldob2 {h : Hp} {q k T z : Nat} {rows : List (List D)} {p : Str × Str} (hq : h[q]? = some (.row T z rows)) (hk : rows[k]? = some (fld p)) : dLoad tab h ty109 (.ptr q k 0) = some (.agg (fld p)) := by
  rw [ldp109, row_of hq, hk]
  rfl
theorem l1065 (c : Str × Str → Str × Str → Int) (cmp : D) (hc : ∀ x y g, callV R cmp [.agg (fld x), .agg (fld y)] g = some (.int .i64 (c x y), g)) (ob N a : Nat) (hN : N ≤ 1000000000) {β : Type} {K : Out → Option β} {Q : β → Prop}
    (l : List (Str × Str)) (hl : l.length = N) (j : Nat) (hj : j < N) (h : Hp) (ho : h[ob]? = some (.row ty109 2 (l.map fld))) (b : D)
    (k : ∀ x y h', h'[ob]? = some (.row ty109 2 ((dn c a j l).map fld)) → Same ob h h' → Wp (K (.ext 2, [x, y], h')) Q) :
    Wp ((loopW (F1065_L1 (.msl 2 ob 0 N) (.int .i64 a) cmp) [.int .i64 j, b] h).bind K) Q := by
  generalize hV : dn c a j l = V at k
  refine Wp.loop (fun n ds g => ∃ b, ∃ j : Nat, ∃ l' : List (Str × Str), n = j ∧ ds = [.int .i64 j, b] ∧ l'.length = N ∧ j < N ∧ g[ob]? = some (.row ty109 2 (l'.map fld)) ∧ Same ob h g ∧ dn c a j l' = V)
    (fun r => r.1 = .ext 2 ∧ (∃ x y, r.2.1 = [x, y]) ∧ r.2.2[ob]? = some (.row ty109 2 (V.map fld)) ∧ Same ob h r.2.2) j ⟨b, j, l, rfl, rfl, hl, hj, ho, .refl _ _, hV⟩ ?_ ?_
  · clear ho hl hj hV l j
    rintro n ds g ⟨b, j, l, rfl, rfl, hl, hj, ho, sm, hV⟩
    simp only [F1065_L1, nth_zero, nth_succ, bs, Option.bind_assoc, dBin_gtr]
    cases n with
    | zero =>
      have hq : ¬ (a : Int) < ((0 : Nat) : Int) := by omega
      have hV : l = V := hV
      subst hV
      simp only [hq, decide_false, gd_bool, gdW_bool, Bool.false_eq_true, if_false, reduceCtorEq, bs, dPick_bool, dIf_bool]
      exact .some (.inr ⟨by simp, rfl, ⟨_, _, rfl⟩, ho, sm⟩)
    | succ j =>
      have g1 : l[j + 1]? = some l[j + 1] := List.getElem?_eq_getElem (by omega)
      have g0 : l[j]? = some l[j] := List.getElem?_eq_getElem (by omega)
      unfold dn at hV
      rw [g1, g0] at hV
      simp only at hV
      generalize l[j + 1] = x at g1 hV
      generalize l[j] = y at g0 hV
      by_cases ha : a < j + 1
      · have ha' : (a : Int) < ((j + 1 : Nat) : Int) := by omega
        have hw : IntKind.wrap .i64 (((j + 1 : Nat) : Int) - 1) = (j : Int) := by
          rw [wrap_i64 (by omega) (by omega)]; omega
        have i1 : (0 : Int) ≤ ((j + 1 : Nat) : Int) ∧ ((j + 1 : Nat) : Int) < (N : Int) := by omega
        have i0 : (0 : Int) ≤ (j : Int) ∧ (j : Int) < (N : Int) := by omega
        have m1 : (l.map fld)[j + 1]? = some (fld x) := by rw [List.getElem?_map, g1]; rfl
        have m0 : (l.map fld)[j]? = some (fld y) := by rw [List.getElem?_map, g0]; rfl
        simp only [ha', decide_true, gd_bool, gdW_bool, if_true, ixm29, i1, i0, and_self, Nat.zero_add, Int.toNat_natCast, dBin_sub, hw, bs, ldob2 ho m1, ldob2 ho m0, hc, dBin_lss, dPick_bool]
        by_cases hlt : c x y < 0
        · rw [if_pos ⟨ha, hlt⟩] at hV
          simp only [hlt, decide_true, dIf_bool, if_true]
          refine wst109 ho m1 (by rfl) (by simp [-bind_some, fld]) (by rfl) fun g2 p2 s2 => ?_
          rw [show spl (fld x) 0 (cells1 (.agg (fld y))) = fld y from id rfl, set_map_row] at p2
          have m2 : ((l.set (j + 1) y).map fld)[j]? = some (fld y) := by
            rw [List.getElem?_map, List.getElem?_set_ne (by omega), g0]; rfl
          try simp only [bs, i0, and_self, if_true, Nat.zero_add, Int.toNat_natCast]
          refine wst109 p2 m2 (by rfl) (by simp [-bind_some, fld]) (by rfl) fun g3 p3 s3 => ?_
          rw [show spl (fld y) 0 (cells1 (.agg (fld x))) = fld x from id rfl, set_map_row] at p3
          try simp only [bs]
          exact .some (.inl ⟨rfl, j, by omega, _, j, _, rfl, rfl, by simpa using hl, by omega, p3, (sm.trans s2).trans s3, hV⟩)
        · rw [if_neg (fun hh => hlt hh.2)] at hV
          subst hV
          simp only [hlt, decide_false, dIf_bool, Bool.false_eq_true, if_false]
          exact .some (.inr ⟨by simp, rfl, ⟨_, _, rfl⟩, ho, sm⟩)
      · rw [if_neg (fun hh => ha hh.1)] at hV
        subst hV
        have ha' : ¬ (a : Int) < ((j + 1 : Nat) : Int) := by omega
        simp only [ha', decide_false, gd_bool, gdW_bool, Bool.false_eq_true, if_false, reduceCtorEq, bs, dPick_bool, dIf_bool]
        exact .some (.inr ⟨by simp, rfl, ⟨_, _, rfl⟩, ho, sm⟩)
  · rintro ⟨x, ds, g⟩ ⟨rfl, ⟨u, v, rfl⟩, h1, h2⟩
    exact k u v g h1 h2
theorem s1065 (c : Str × Str → Str × Str → Int) (cmp : D) (hc : ∀ x y g, callV R cmp [.agg (fld x), .agg (fld y)] g = some (.int .i64 (c x y), g)) (ob N a b : Nat) (hN : N ≤ 1000000000) (hab : a < b ∨ (a = b ∧ b ≤ N)) (hb : b ≤ N)
    (l : List (Str × Str)) (hl : l.length = N) (h : Hp) (ho : h[ob]? = some (.row ty109 2 (l.map fld))) :
    ∃ d h', R fn1065 [.msl 2 ob 0 N, .int .i64 a, .int .i64 b, cmp] h = some (d, h') ∧ h'[ob]? = some (.row ty109 2 ((isr c a (a + 1) (b - (a + 1)) l).map fld)) ∧ Same ob h h' := by
  suffices Wp (R fn1065 [.msl 2 ob 0 N, .int .i64 a, .int .i64 b, cmp] h) (fun p => p.2[ob]? = some (.row ty109 2 ((isr c a (a + 1) (b - (a + 1)) l).map fld)) ∧ Same ob h p.2) by
    obtain ⟨⟨x, h'⟩, h1, h2⟩ := this
    exact ⟨x, h', h1, h2⟩
  rw [e1065]
  have hw : IntKind.wrap .i64 ((a : Int) + 1) = ((a + 1 : Nat) : Int) := by rw [wrap_i64 (by omega) (by omega)]; omega
  simp only [F1065, bs, Option.bind_assoc, dBin_add, hw]
  generalize hV : isr c a (a + 1) (b - (a + 1)) l = V
  refine Wp.loop (fun n ds g => ∃ u v w, ∃ i : Nat, ∃ l' : List (Str × Str), ds = [.int .i64 i, u, v, w] ∧ n = b - i ∧ l'.length = N ∧ g[ob]? = some (.row ty109 2 (l'.map fld)) ∧ Same ob h g ∧ isr c a i (b - i) l' = V)
    (fun r => r.1 = .ext 0 ∧ r.2.2[ob]? = some (.row ty109 2 (V.map fld)) ∧ Same ob h r.2.2) (b - (a + 1)) ⟨_, _, _, a + 1, l, rfl, rfl, hl, ho, .refl _ _, hV⟩ ?_ ?_
  · rintro n ds g ⟨u, v, w, i, l', rfl, rfl, hl', ho', sm, hV⟩
    simp only [F1065_L0, nth_zero, nth_succ, bs, Option.bind_assoc, dBin_lss]
    refine Wp.dif ?_ ?_
    · intro h0
      have h0 : i < b := by have : (i : Int) < (b : Int) := by simpa using h0
                            omega
      have hb1 : b - i = (b - (i + 1)) + 1 := by omega
      rw [hb1] at hV
      unfold isr at hV
      have hw2 : IntKind.wrap .i64 ((i : Int) + 1) = ((i + 1 : Nat) : Int) := by rw [wrap_i64 (by omega) (by omega)]; omega
      refine l1065 c cmp hc ob N a hN l' hl' i (by omega) g ho' _ fun x y g2 p2 s2 => ?_
      simp only [unblk_self, unblk_nrm, toEnd_nrm, bs, nth_zero, dBin_add, hw2]
      exact .some (.inl ⟨rfl, b - (i + 1), by omega, _, _, _, i + 1, _, rfl, rfl, by rw [dn_len]; exact hl', p2, sm.trans s2, hV⟩)
    · intro h0
      have h0 : ¬ i < b := by have : ¬ (i : Int) < (b : Int) := by simpa using h0
                              omega
      rw [show b - i = 0 by omega] at hV
      have hV : l' = V := hV
      subst hV
      exact .some (.inr ⟨by simp, rfl, ho', sm⟩)
  · rintro ⟨x, ds, g⟩ ⟨rfl, h1, h2⟩
    simp only [unblk_self, exEnd_nrm, bs]
    exact .some ⟨h1, h2⟩
theorem cmpB_lt : ∀ (a b : Str), Lib.compareBytes a b < 0 ↔ Op.bytesLess a b = true
  | [], [] => by simp [-bind_some, Lib.compareBytes, Op.bytesLess]
  | [], _ :: _ => by simp [-bind_some, Lib.compareBytes, Op.bytesLess]
  | _ :: _, [] => by simp [-bind_some, Lib.compareBytes, Op.bytesLess]
  | x :: a, y :: b => by
    have ih := cmpB_lt a b
    simp only [Lib.compareBytes, Op.bytesLess]
    by_cases h1 : x < y
    · simp [-bind_some, h1]
    · by_cases h2 : y < x
      · have h3 : ¬ x = y := fun hh => by subst hh; exact h1 h2
        simp [-bind_some, h1, h2, h3]
      · have h3 : x = y := by
          apply UInt8.toNat_inj.1
          have := mt UInt8.lt_iff_toNat_lt.2 h1
          have := mt UInt8.lt_iff_toNat_lt.2 h2
          omega
        subst h3
        simp [-bind_some, h1, ih]
def cF (x y : Str × Str) : Int := Lib.compareBytes x.1 y.1
theorem s1059 (a b : Str) (h : Hp) : R fn1059 [.str a, .str b] h = some (.int .i64 (Lib.compareBytes a b), h) := by
  rw [e1059]
  simp only [F1059, bs, e1064, F1064, xcmp, mkRes_one]
theorem s1058 (x y : Str × Str) (h : Hp) : R fn1058 [.agg (fld x), .agg (fld y)] h = some (.int .i64 (cF x y), h) := by
  rw [e1058]
  simp only [F1058, bs, pBoxF_agg, fld_f0, fld_l0, s1059, mkRes_one, cF]
theorem c1058 (x y : Str × Str) (h : Hp) : callV R (.fn (.func fn1058) [] []) [.agg (fld x), .agg (fld y)] h = some (.int .i64 (cF x y), h) := by
  rw [callV_some]; exact s1058 x y h
theorem s1063 (c : Str × Str → Str × Str → Int) (cmp : D) (hc : ∀ x y g, callV R cmp [.agg (fld x), .agg (fld y)] g = some (.int .i64 (c x y), g)) (ob N : Nat) (hN : N ≤ 20)
    (l : List (Str × Str)) (hl : l.length = N) (h : Hp) (ho : h[ob]? = some (.row ty109 2 (l.map fld))) :
    ∃ d h', R fn1063 [.msl 2 ob 0 N, .int .i64 N, cmp] h = some (d, h') ∧ h'[ob]? = some (.row ty109 2 ((isr c 0 1 (N - 1) l).map fld)) ∧ Same ob h h' := by
  suffices Wp (R fn1063 [.msl 2 ob 0 N, .int .i64 N, cmp] h) (fun p => p.2[ob]? = some (.row ty109 2 ((isr c 0 1 (N - 1) l).map fld)) ∧ Same ob h p.2) by
    obtain ⟨⟨x, h'⟩, h1, h2⟩ := this
    exact ⟨x, h', h1, h2⟩
  rw [e1063]
  simp only [F1063, bs, Option.bind_assoc]
  refine Wp.loop (fun n ds g => (n = 1 ∧ ∃ u, ds = [.int .i64 0, .int .i64 20, u] ∧ g = h) ∨ (n = 0 ∧ N = 20 ∧ ∃ u, ds = [.int .i64 20, .int .i64 40, u] ∧ g[ob]? = some (.row ty109 2 ((isr c 0 1 (N - 1) l).map fld)) ∧ Same ob h g))
    (fun r => r.1 = .ext 0 ∧ ∃ (a : Nat) (u v : D), r.2.1 = [.int .i64 a, u, v] ∧ ((a = 0 ∧ r.2.2 = h) ∨ (a = N ∧ r.2.2[ob]? = some (.row ty109 2 ((isr c 0 1 (N - 1) l).map fld)) ∧ Same ob h r.2.2))) 1 (.inl ⟨rfl, _, rfl, rfl⟩) ?_ ?_
  · rintro n ds g (⟨rfl, u, rfl, rfl⟩ | ⟨rfl, h20, u, rfl, p1, s1⟩)
    · simp only [F1063_L0, nth_zero, nth_succ, bs, Option.bind_assoc, dBin_leq]
      refine Wp.dif ?_ ?_
      · intro h0
        have h0 : N = 20 := by have : (20 : Int) ≤ (N : Int) := by simpa using h0
                               omega
        obtain ⟨d, h', e1, p1, s1⟩ := s1065 c cmp hc ob N 0 20 (by omega) (by omega) (by omega) l hl g ho
        have e1 : R fn1065 [.msl 2 ob 0 N, .int .i64 0, .int .i64 20, cmp] g = some (d, h') := e1
        simp only [e1, bs, dBin_add, show IntKind.wrap .i64 ((20 : Int) + 20) = 40 from rfl]
        exact .some (.inl ⟨rfl, 0, by omega, .inr ⟨rfl, h0, _, rfl, by rw [h0]; exact p1, s1⟩⟩)
      · intro h0
        exact .some (.inr ⟨by simp, rfl, 0, _, _, rfl, .inl ⟨rfl, rfl⟩⟩)
    · have hq : ¬ (40 : Int) ≤ (N : Int) := by omega
      simp only [F1063_L0, nth_zero, nth_succ, bs, Option.bind_assoc, dBin_leq, hq, decide_false, dIf_bool, Bool.false_eq_true, if_false]
      exact .some (.inr ⟨by simp, rfl, 20, _, _, rfl, .inr ⟨h20.symm, p1, s1⟩⟩)
  · rintro ⟨x, ds, g⟩ ⟨rfl, a, u, v, rfl, hg⟩
    simp only [unblk_self, toEnd_nrm, nth_zero, nth_succ, bs]
    have hin : ∃ d h', R fn1065 [.msl 2 ob 0 N, .int .i64 a, .int .i64 N, cmp] g = some (d, h') ∧ h'[ob]? = some (.row ty109 2 ((isr c 0 1 (N - 1) l).map fld)) ∧ Same ob h h' := by
      rcases hg with ⟨rfl, rfl⟩ | ⟨rfl, p1, s1⟩
      · exact s1065 c cmp hc ob N 0 N (by omega) (by omega) (by omega) l hl g ho
      · obtain ⟨d, h', q1, q2, q3⟩ := s1065 c cmp hc ob a a a (by omega) (by omega) (by omega) _ (by rw [isr_len]; exact hl) g p1
        rw [show a - (a + 1) = 0 by omega] at q2
        exact ⟨d, h', q1, q2, s1.trans q3⟩
    obtain ⟨d, h', q1, q2, q3⟩ := hin
    simp only [q1, bs]
    rw [loopW_eq]
    have hq : ¬ (20 : Int) < (N : Int) := by omega
    simp only [F1063_L1, nth_zero, nth_succ, bs, Option.bind_assoc, dBin_lss, hq, decide_false, dIf_bool, Bool.false_eq_true, if_false, unblk_self, exEnd_nrm]
    exact .some ⟨q2, q3⟩
theorem s1057 (c : Str × Str → Str × Str → Int) (cmp : D) (hc : ∀ x y g, callV R cmp [.agg (fld x), .agg (fld y)] g = some (.int .i64 (c x y), g)) (ob N : Nat) (hN : N ≤ 20)
    (l : List (Str × Str)) (hl : l.length = N) (h : Hp) (ho : h[ob]? = some (.row ty109 2 (l.map fld))) :
    ∃ d h', R fn1057 [.msl 2 ob 0 N, cmp] h = some (d, h') ∧ h'[ob]? = some (.row ty109 2 ((isr c 0 1 (N - 1) l).map fld)) ∧ Same ob h h' := by
  obtain ⟨d, h', q1, q2, q3⟩ := s1063 c cmp hc ob N hN l hl h ho
  refine ⟨mkRes [], h', ?_, q2, q3⟩
  rw [e1057]
  simp only [F1057, bs, lenm29, q1]
-- classes of bytes, by the program's table
theorem ixA (cs : List D) (i : Int) (h0 : 0 ≤ i) (h1 : i < 256) (hl : i.toNat < cs.length) : dIndexAddr tab ty1044 (.fptr cs) (.int .u8 i) = some (.fptr (cs.drop i.toNat)) := by
  have := ia_arr (T := tab) (t := ty1044) (n := 256) (z := 1) (i := ti1044) (j := ti5) (id rfl) (id rfl) (id rfl) (id rfl) (by omega) (cs := cs) (k := .u8) h0 h1 (by omega)
  rwa [Nat.mul_one] at this
theorem kinZ_len : kinZ.length = 256 := by decide
theorem kin_len : kin.length = 256 := by simp [-bind_some, kin, kinZ_len]
theorem kin_at (i : Nat) (hi : i < 256) : ∃ z, kin.drop i = .int .u8 z :: kin.drop (i + 1) ∧ kinZ[i]? = some z := by
  have hl := kinZ_len
  have hk := kin_len
  refine ⟨kinZ[i]'(by omega), ?_, List.getElem?_eq_getElem (by omega)⟩
  rw [List.drop_eq_getElem_cons (by omega)]
  simp [-bind_some, kin]
def kletter (z : Int) : Bool := decide (IntKind.wrap .u8 (BitVec.ofInt IntKind.u8.bits z &&& BitVec.ofInt IntKind.u8.bits 2).toNat ≠ 0)
def kword (z : Int) : Bool := decide (IntKind.wrap .u8 (BitVec.ofInt IntKind.u8.bits z &&& BitVec.ofInt IntKind.u8.bits 3).toNat ≠ 0)
theorem k_all : ∀ i : Fin 256, (kinZ[i.val]?).map kletter = some (letter i.val) ∧ (kinZ[i.val]?).map kword = some (digit i.val || letter i.val) := by decide
theorem s1061 (c : UInt8) (h : Hp) : R fn1061 [.int .u8 c.toNat] h = some (.bool (letter c.toNat), h) := by
  have hc : c.toNat < 256 := c.toNat_lt
  obtain ⟨z, hz, hg⟩ := kin_at c.toNat hc
  have hk := (k_all ⟨c.toNat, hc⟩).1
  simp only [hg, Option.map_some, Option.some.injEq] at hk
  have hl := kin_len
  rw [e1061]
  simp only [F1061, bs, ixA kin c.toNat (by omega) (by omega) (by rw [hl]; simpa using hc), Int.toNat_natCast, hz, ld5, dBin_and, dBin_neq, mkRes_one, ← hk, kletter]
theorem s1062 (c : UInt8) (h : Hp) : R fn1062 [.int .u8 c.toNat] h = some (.bool (wordc c.toNat), h) := by
  have hc : c.toNat < 256 := c.toNat_lt
  obtain ⟨z, hz, hg⟩ := kin_at c.toNat hc
  have hk := (k_all ⟨c.toNat, hc⟩).2
  simp only [hg, Option.map_some, Option.some.injEq] at hk
  have hl := kin_len
  rw [e1062]
  simp only [kword] at hk
  simp only [F1062, bs, ixA kin c.toNat (by omega) (by omega) (by rw [hl]; simpa using hc), Int.toNat_natCast, hz, ld5, dBin_and, dBin_neq, dBin_eql, wordc, hk]
  cases hq : (digit c.toNat || letter c.toNat) <;> simp [-bind_some]
theorem l1056 (s : Str) (h : Hp) (ob : Nat) (hob : h[ob]? = some (.row ty5 1 (bytesRows s))) (hl : s.length ≤ 9223372036854775807) {β : Type} (K : Out → Option β) (X : Bool → Option β) (hh : Hp)
   (hX : ∀ r, K (.ret, .bool false :: r, h) = X false) (hY : ∀ r, K (.ext 0, r, h) = X true) : ∀ (suf pre : Str), s = pre ++ suf → ∀ a b e f,
   (loopW (F1056_L0 (.msl 1 ob 0 s.length, hh) (.int .i64 s.length)) [a, b, .int .i64 pre.length, e, f] h).bind K = X (suf.all nameC) := by
  intro suf
  induction suf with
  | nil =>
    rintro pre rfl a b e f
    rw [loopW_eq]
    simp [-bind_some, F1056_L0, hY]
  | cons p suf ih =>
    rintro pre rfl a b e f
    have hw : IntKind.wrap .i64 ((pre.length : Int) + 1) = (pre ++ [p]).length := by
      rw [wrap_i64 (by omega) (by simp at hl; omega)]; simp [-bind_some]
    have hlt : (pre.length : Int) < (pre ++ p :: suf).length := by simp; omega
    rw [loopW_eq]
    generalize hL : pre ++ p :: suf = L at *
    have hg : (bytesRows L)[pre.length]? = some [.int .u8 p.toNat] := by rw [← hL]; simp [-bind_some, bytesRows]
    have hld : dLoad tab h ty5 (.ptr ob pre.length 0) = some (.int .u8 p.toNat) := by
      rw [ldp5, row_of hob, hg]; rfl
    have h0 : (0 : Int) ≤ (pre.length : Int) ∧ (pre.length : Int) < (L.length : Int) := ⟨by omega, hlt⟩
    cases hp : wordc p.toNat
    · by_cases h46 : (p.toNat : Int) = 46
      · have := ih (pre ++ [p]) (by simp [-bind_some, ← hL]) a (.int .u8 p.toNat) (.bool true) (.bool false)
        simp only [← hw] at this
        have h47 : wordc 46 = false := rfl
        have hs := s1062 p h
        rw [hp] at hs
        have hpn : nameC p = true := by simp [-bind_some, nameC, hp, h46]
        have hn : decide ((p.toNat : Int) ≠ 46) = false := by simp [-bind_some, h46]
        simp only [F1056_L0, nth_zero, nth_succ, bs, dBin_lss, hlt, decide_true, dIf_bool, if_true, ixm22, h0, and_self, Nat.zero_add, Int.toNat_natCast, hld, hs, dUn_not, Bool.not_false, gd_bool, dBin_neq, hn, dPick_bool, Bool.false_eq_true, if_false, dBin_add, List.all_cons, hpn, Bool.true_and]
        exact this
      · have hs := s1062 p h
        rw [hp] at hs
        have hpn : nameC p = false := by simp [-bind_some, nameC, hp, h46]
        have hn : decide ((p.toNat : Int) ≠ 46) = true := by simp [-bind_some, h46]
        simp only [F1056_L0, nth_zero, nth_succ, bs, dBin_lss, hlt, decide_true, dIf_bool, if_true, ixm22, h0, and_self, Nat.zero_add, Int.toNat_natCast, hld, hs, dUn_not, Bool.not_false, gd_bool, dBin_neq, hn, dPick_bool, List.all_cons, hpn, Bool.false_and, hX]
    · have := ih (pre ++ [p]) (by simp [-bind_some, ← hL]) a (.int .u8 p.toNat) (.bool true) (.bool false)
      simp only [← hw] at this
      have hs := s1062 p h
      rw [hp] at hs
      have hpn : nameC p = true := by simp [-bind_some, nameC, hp]
      simp only [F1056_L0, nth_zero, nth_succ, bs, dBin_lss, hlt, decide_true, dIf_bool, if_true, ixm22, h0, and_self, Nat.zero_add, Int.toNat_natCast, hld, hs, dUn_not, Bool.not_true, gd_bool, Bool.false_eq_true, if_false, reduceCtorEq, dPick_bool, dBin_add, List.all_cons, hpn, Bool.true_and]
      exact this
theorem s1056 (s : Str) (h : Hp) : R fn1056 [.str s] h = some (.bool (fnameOK s), h) := by
  have sc : ∀ (g : Hp) (v : Bool), h.length ≤ g.length → (∀ q, q < h.length → g[q]? = h[q]?) → scope h g (.bool v) = some (.bool v, h) := fun g v h1 h2 => scope_eq (by simp) (.bool _) h1 h2
  rw [e1056]
  cases s with
  | nil =>
    simp only [F1056, bs, dBin_seql, beq_self_eq_true, gd_bool, gdW_bool, reduceCtorEq, if_false, dPick_bool, if_true, dIf_bool, mkRes_one, Bool.true_eq_false, sc h _ (Nat.le_refl _) (fun _ _ => rfl)]
    rfl
  | cons c r =>
    have hne : ((c :: r : Str) == []) = false := by simp
    by_cases h32 : (32 : Int) < ((c :: r).length : Int)
    · have hf : fnameOK (c :: r) = false := by
        have : ¬ (c :: r).length ≤ 32 := by omega
        simp [-bind_some, fnameOK]
        intro hh; simp at this; omega
      simp only [F1056, bs, dBin_seql, hne, gd_bool, gdW_bool, if_true, len9, dBin_gtr, h32, decide_true, reduceCtorEq, if_false, dPick_bool, dIf_bool, mkRes_one, Bool.true_eq_false, Bool.false_eq_true, gd_und, gdW_und, sc h _ (Nat.le_refl _) (fun _ _ => rfl), hf]
    · have hle : (c :: r).length ≤ 32 := by omega
      have hi0 := sidx (c :: r) 0 c rfl
      have hi0 : dIndex tab ty9 (.str (c :: r)) (.int .i64 0) = some (.int .u8 c.toNat) := hi0
      have hs := s1061 c h
      have hwb : wBytes ty5 h (.str (c :: r)) = some (.msl 1 h.length 0 (c :: r).length, dNew h ty5 1 (bytesRows (c :: r))) := if_pos (lim_ok (by omega) (by omega))
      have p1 := new_get h ty5 1 (bytesRows (c :: r))
      have hsc : ∀ v, scope h (dNew h ty5 1 (bytesRows (c :: r))) (.bool v) = some (.bool v, h) := fun v => sc _ _ (by rw [new_len]; omega) fun q hq => new_old _ _ _ _ hq
      have go : ∀ (b : Bool), (letter c.toNat || decide ((c.toNat : Int) = 95)) = b → fnameOK (c :: r) = (b && (c :: r).all nameC) := fun b hb => by
        simp only [fnameOK, hle, decide_true, Bool.true_and, hb]
      cases hq : letter c.toNat
      · rw [hq] at hs
        by_cases h95 : (c.toNat : Int) = 95
        · have hn95 : decide ((c.toNat : Int) ≠ 95) = false := by simp [-bind_some, h95]
          rw [go true (by simp [-bind_some, hq, h95])]
          simp only [F1056, bs, Option.bind_assoc, dBin_seql, hne, gd_bool, gdW_bool, if_true, len9, dBin_gtr, h32, decide_false, reduceCtorEq, if_false, dPick_bool, dIf_bool, Bool.false_eq_true, hi0, hs, dUn_not, Bool.not_false, dBin_neq, hn95, hwb, lenm22]
          have := l1056 (c :: r) (dNew h ty5 1 (bytesRows (c :: r))) h.length p1 (by omega) (fun r_1 => (some ((unblk 0 r_1.1), [(nth 0 r_1.2.1), (nth 1 r_1.2.1), (nth 2 r_1.2.1), (nth 3 r_1.2.1), (nth 4 r_1.2.1)], r_1.2.2)).bind fun r_2 => toEnd r_2.1 (scope h r_2.2.2 (.bool true)) fun x => exEnd x (scope h r_2.2.2 (mkRes [nth 0 r_2.2.1]))) (fun b => some (.bool b, h)) (dNew h ty5 1 (bytesRows (c :: r))) (fun r => by simp [-bind_some, hsc]) (fun r => by simp [-bind_some, hsc]) (c :: r) [] rfl (.bool false) .any .any .any
          simpa using this
        · have hn95 : decide ((c.toNat : Int) ≠ 95) = true := by simp [-bind_some, h95]
          rw [go false (by simp [-bind_some, hq, h95])]
          simp only [F1056, bs, dBin_seql, hne, gd_bool, gdW_bool, if_true, len9, dBin_gtr, h32, decide_false, reduceCtorEq, if_false, dPick_bool, dIf_bool, Bool.false_eq_true, hi0, hs, dUn_not, Bool.not_false, dBin_neq, hn95, mkRes_one, sc h _ (Nat.le_refl _) (fun _ _ => rfl), Bool.false_and]
      · rw [hq] at hs
        rw [go true (by simp [-bind_some, hq])]
        simp only [F1056, bs, Option.bind_assoc, dBin_seql, hne, gd_bool, gdW_bool, if_true, len9, dBin_gtr, h32, decide_false, reduceCtorEq, if_false, dPick_bool, dIf_bool, Bool.false_eq_true, hi0, hs, dUn_not, Bool.not_true, hwb, lenm22, gd_und]
        have := l1056 (c :: r) (dNew h ty5 1 (bytesRows (c :: r))) h.length p1 (by omega) (fun r_1 => (some ((unblk 0 r_1.1), [(nth 0 r_1.2.1), (nth 1 r_1.2.1), (nth 2 r_1.2.1), (nth 3 r_1.2.1), (nth 4 r_1.2.1)], r_1.2.2)).bind fun r_2 => toEnd r_2.1 (scope h r_2.2.2 (.bool true)) fun x => exEnd x (scope h r_2.2.2 (mkRes [nth 0 r_2.2.1]))) (fun b => some (.bool b, h)) (dNew h ty5 1 (bytesRows (c :: r))) (fun r => by simp [-bind_some, hsc]) (fun r => by simp [-bind_some, hsc]) (c :: r) [] rfl (.bool false) .any .any .any
        simpa using this
def RdF (h : Hp) (l : List (Str × Str)) (d : D) : Prop := SlOf 2 fld l d ∨ ∃ ob, d = .msl 2 ob 0 l.length ∧ h[ob]? = some (.row ty109 2 (l.map fld))
theorem rdF_len {h : Hp} {l : List (Str × Str)} {d : D} (hd : RdF h l d) : dLenT tab ty29 d = some (.int .i64 l.length) := by
  rcases hd with hd | ⟨ob, rfl, _⟩
  · exact lens29 hd
  · exact lenm29 _ _ _ _
theorem rdF_ix {h : Hp} {l : List (Str × Str)} {d : D} (hd : RdF h l d) (i : Nat) (p : Str × Str) (hp : l[i]? = some p) : ∃ q, dIndexAddr tab ty29 d (.int .i64 i) = some q ∧ dLoad tab h ty109 q = some (.agg (fld p)) ∧
    ∃ q0, dFieldAddr tab ty109 0 q = some q0 ∧ dLoad tab h ty9 q0 = some (.str p.1) := by
  have hi := (List.getElem?_eq_some_iff.1 hp).1
  rcases hd with hd | ⟨ob, rfl, ho⟩
  · exact ⟨.fptr (fld p), by rw [ixs29 hd]; simp [-bind_some, hp], fld_ld p h, .fptr (fld p), fld_f0 p, fld_l0 p h⟩
  · have hr : (l.map fld)[i]? = some (fld p) := by rw [List.getElem?_map, hp]; rfl
    have hh : (0 : Int) ≤ (i : Int) ∧ (i : Int) < (l.length : Int) := by omega
    refine ⟨.ptr ob i 0, by rw [ixm29]; simp [-bind_some, hh], ldob2 ho hr, .ptr ob i 0, by rw [fap109_0], ?_⟩
    rw [ldp9, row_of ho, hr]; rfl
theorem RdF.keep {h h' : Hp} {l : List (Str × Str)} {d : D} (hd : RdF h l d) (hk : ∀ (q T z : Nat) (rows : List (List D)), h[q]? = some (Ob.row T z rows) → h'[q]? = h[q]?) : RdF h' l d := by
  rcases hd with hd | ⟨ob, rfl, ho⟩
  · exact .inl hd
  · exact .inr ⟨ob, rfl, by rw [hk ob _ _ _ ho]; exact ho⟩
theorem u1009 (l : List (Str × Str)) (d : D) (h : Hp) (hd : SlOf 2 fld l d) (hl : l.length ≤ 1000000) : ∃ d' h', R fn1009 [d] h = some (d', h') ∧ h.length ≤ h'.length ∧ (∀ q, q < h.length → h'[q]? = h[q]?) ∧
    ((l = [] ∧ SlOf 2 fld [] d') ∨ ∃ ob, h.length ≤ ob ∧ d' = .msl 2 ob 0 l.length ∧ h'[ob]? = some (.row ty109 2 (l.map fld))) := by
  rw [e1009]
  rcases hd with ⟨rfl, rfl⟩ | ⟨b, rfl⟩
  · exact ⟨.nils, h, by
      have hne : dBin tab .eql ty29 .nils .nils = some (.bool true) := id rfl
      simp [-bind_some, F1009, hne], Nat.le_refl _, fun _ _ => rfl, .inl ⟨rfl, .nils _ _⟩⟩
  · obtain ⟨x', h', e, hl', hq, ho⟩ := app_full (T := tab) (t := ty29) (i := ti29) (j := ti109) (h := h) (id rfl) (id rfl) (id rfl) (by decide) (y := .sl 2 b (l.map fld)) (rowsOf_sl _ _ _ _) (lim_ok (by have : ti109.by_ = 32 := rfl; rw [this, List.length_map]; omega) (by rw [List.length_map]; omega))
    have e' : dAppend tab h ty29 ty29 (.sl 2 true []) (.sl 2 b (l.map fld)) = some (x', h') := e
    have hne : dBin tab .eql ty29 (.sl 2 b (l.map fld)) .nils = some (.bool false) := id rfl
    refine ⟨x', h', ?_, hl', hq, ?_⟩
    · simp only [F1009, bs, hne, dIf_bool, Bool.false_eq_true, if_false, bs29_0, e', mkRes_one]
    · rcases ho with ⟨rfl, hn⟩ | ⟨rfl, hn⟩ | ⟨ob, h1, rfl, h2⟩
      · have : l = [] := by simpa using hn
        exact .inl ⟨this, .inr ⟨true, rfl⟩⟩
      · have : l = [] := by simpa using hn
        exact .inl ⟨this, .nils _ _⟩
      · exact .inr ⟨ob, h1, by rw [List.length_map]; rfl, h2⟩
def srt (l : List (Str × Str)) : List (Str × Str) := isr cF 0 1 (l.length - 1) l
theorem srt_len (l : List (Str × Str)) : (srt l).length = l.length := isr_len _ _ _ _ _
def adjB : List (Str × Str) → Bool
  | x :: y :: r => y.1 == x.1 || adjB (y :: r)
  | _ => false
def sortF (l : List (Str × Str)) : Int × List (Str × Str) := if 32 < l.length then (4, []) else if l.all (fun p => fnameOK p.1) = true then (if adjB (srt l) = true then (7, []) else (0, srt l)) else (6, [])
theorem l1052a (l : List (Str × Str)) (d : D) (h : Hp) (hd : SlOf 2 fld l d) (hl : l.length ≤ 1000) {β : Type} {K : Out → Option β} {Q : β → Prop} (a b c e f : D)
    (k1 : l.all (fun p => fnameOK p.1) = true → ∀ x y z w, Wp (K (.ext 0, [a, b, x, y, z, w], h)) Q) (k2 : ¬ l.all (fun p => fnameOK p.1) = true → ∀ x y z w, Wp (K (.ret, [.nils, .int .i64 6, x, y, z, w], h)) Q) :
    Wp ((loopW (F1052_L0 d (.int .i64 l.length)) [a, b, c, .int .i64 0, e, f] h).bind K) Q := by
  generalize hV : l.all (fun p => fnameOK p.1) = V at k1 k2
  refine Wp.loop (fun k ds g => g = h ∧ ∃ c e f, ∃ i : Nat, ds = [a, b, c, .int .i64 i, e, f] ∧ k + i = l.length ∧ (l.drop i).all (fun p => fnameOK p.1) = V)
      (fun x => x.2.2 = h ∧ ((x.1 = .ext 0 ∧ V = true ∧ ∃ p q r s, x.2.1 = [a, b, p, q, r, s]) ∨ (x.1 = .ret ∧ V = false ∧ ∃ p q r s, x.2.1 = [.nils, .int .i64 6, p, q, r, s]))) l.length ⟨rfl, _, _, _, 0, rfl, rfl, hV⟩ ?_ ?_
  · rintro k ds g ⟨rfl, c, e, f, i, rfl, hk, hch⟩
    simp only [F1052_L0, nth_zero, nth_succ, bs, Option.bind_assoc, dBin_lss]
    refine Wp.dif ?_ ?_
    · intro h0
      have h0 : i < l.length := by have : (i : Int) < l.length := by simpa using h0
                                   omega
      have hg : l[i]? = some l[i] := List.getElem?_eq_getElem h0
      have hw : IntKind.wrap .i64 ((i : Int) + 1) = ((i + 1 : Nat) : Int) := by
        rw [wrap_i64 (by omega) (by omega)]; omega
      rw [List.drop_eq_getElem_cons h0] at hch
      generalize l[i] = x at hg hch
      have hbx : boxN 2 (.agg (fld x)) = some (.fptr (fld x)) := boxN_agg 2 _ rfl
      simp only [ixs29 hd, Int.natCast_nonneg, if_true, Int.toNat_natCast, hg, Option.map_some, bs, fld_ld, hbx, fld_f0 x, fld_l0, s1056, dUn_not]
      simp only [List.all_cons] at hch
      cases hf : fnameOK x.1
      · rw [hf] at hch
        simp only [Bool.not_false, dIf_bool, if_true]
        exact .some (.inr ⟨by simp, rfl, .inr ⟨rfl, hch.symm, _, _, _, _, rfl⟩⟩)
      · rw [hf] at hch
        simp only [Bool.not_true, dIf_bool, Bool.false_eq_true, if_false, dBin_add, bs, hw]
        exact .some (.inl ⟨rfl, k - 1, by omega, rfl, _, _, _, i + 1, rfl, by omega, hch⟩)
    · intro h0
      have h0 : l.length ≤ i := by have : ¬ (i : Int) < l.length := by simpa using h0
                                   omega
      rw [List.drop_of_length_le h0] at hch
      exact .some (.inr ⟨by simp, rfl, .inl ⟨rfl, hch.symm, _, _, _, _, rfl⟩⟩)
  · rintro ⟨x, ds, g⟩ ⟨h2, h3⟩
    simp only at h2 h3
    subst h2
    rcases h3 with ⟨rfl, hv, p, q, r, s, rfl⟩ | ⟨rfl, hv, p, q, r, s, rfl⟩
    · exact k1 hv _ _ _ _
    · exact k2 (by rw [hv]; simp [-bind_some]) _ _ _ _
theorem l1052b (l : List (Str × Str)) (d : D) (h : Hp) (hd : RdF h l d) (hl : l.length ≤ 1000) {β : Type} {K : Out → Option β} {Q : β → Prop} (a b c e : D)
    (k1 : adjB l = false → ∀ x y z, Wp (K (.ext 2, [a, b, x, y, z], h)) Q) (k2 : adjB l = true → ∀ x y z, Wp (K (.ret, [.nils, .int .i64 7, x, y, z], h)) Q) :
    Wp ((loopW (F1052_L1 d) [a, b, .int .i64 1, c, e] h).bind K) Q := by
  generalize hV : adjB l = V at k1 k2
  refine Wp.loop (fun k ds g => g = h ∧ ∃ c e, ∃ i : Nat, ds = [a, b, .int .i64 ((i + 1 : Nat) : Int), c, e] ∧ k = l.length - i ∧ adjB (l.drop i) = V)
      (fun x => x.2.2 = h ∧ ((x.1 = .ext 2 ∧ V = false ∧ ∃ p q r, x.2.1 = [a, b, p, q, r]) ∨ (x.1 = .ret ∧ V = true ∧ ∃ p q r, x.2.1 = [.nils, .int .i64 7, p, q, r]))) l.length ⟨rfl, _, _, 0, rfl, rfl, hV⟩ ?_ ?_
  · rintro k ds g ⟨rfl, c, e, i, rfl, hk, hch⟩
    simp only [F1052_L1, nth_zero, nth_succ, bs, Option.bind_assoc, rdF_len hd, dBin_lss]
    refine Wp.dif ?_ ?_
    · intro h0
      have h0 : i + 1 < l.length := by have : ((i + 1 : Nat) : Int) < l.length := by simpa using h0
                                       omega
      have g1 : l[i + 1]? = some l[i + 1] := List.getElem?_eq_getElem h0
      have g0 : l[i]? = some l[i] := List.getElem?_eq_getElem (by omega)
      have hw : IntKind.wrap .i64 (((i + 1 : Nat) : Int) + 1) = ((i + 1 + 1 : Nat) : Int) := by
        rw [wrap_i64 (by omega) (by omega)]; omega
      have hw2 : IntKind.wrap .i64 (((i + 1 : Nat) : Int) - 1) = (i : Int) := by
        rw [wrap_i64 (by omega) (by omega)]; omega
      rw [List.drop_eq_getElem_cons (show i < l.length by omega), List.drop_eq_getElem_cons h0] at hch
      unfold adjB at hch
      rw [← List.drop_eq_getElem_cons h0] at hch
      generalize l[i + 1] = x at g1 hch
      generalize l[i] = y at g0 hch
      obtain ⟨q1, a1, _, r1, b1, c1⟩ := rdF_ix hd (i + 1) x g1
      obtain ⟨q0, a0, _, r0, b0, c0⟩ := rdF_ix hd i y g0
      simp only [a1, a0, b1, b0, c1, c0, bs, dBin_sub, hw2, dBin_seql]
      cases hf : (x.1 == y.1)
      · rw [hf] at hch
        simp only [dIf_bool, Bool.false_eq_true, if_false, dBin_add, bs, hw]
        exact .some (.inl ⟨rfl, l.length - (i + 1), by omega, rfl, _, _, i + 1, rfl, rfl, hch⟩)
      · rw [hf] at hch
        simp only [dIf_bool, if_true]
        exact .some (.inr ⟨by simp, rfl, .inr ⟨rfl, hch.symm, _, _, _, rfl⟩⟩)
    · intro h0
      have h0 : l.length ≤ i + 1 := by have : ¬ ((i + 1 : Nat) : Int) < l.length := by simpa using h0
                                       omega
      have hv : V = false := by
        rw [← hch]
        have : (l.drop i).length ≤ 1 := by simp; omega
        match l.drop i, this with
        | [], _ => rfl
        | [x], _ => rfl
      exact .some (.inr ⟨by simp, rfl, .inl ⟨rfl, hv, _, _, _, rfl⟩⟩)
  · rintro ⟨x, ds, g⟩ ⟨h2, h3⟩
    simp only at h2 h3
    subst h2
    rcases h3 with ⟨rfl, hv, p, q, r, rfl⟩ | ⟨rfl, hv, p, q, r, rfl⟩
    · exact k1 hv _ _ _
    · exact k2 hv _ _ _
theorem s1057e (d cmp : D) (h : Hp) (hd : SlOf 2 fld [] d) : ∃ x, R fn1057 [d, cmp] h = some (x, h) := by
  have hl : dLenT tab ty29 d = some (.int .i64 0) := lens29 hd
  have h65 : ∃ x, R fn1065 [d, .int .i64 0, .int .i64 0, cmp] h = some (x, h) := by
    rw [e1065]
    refine ⟨mkRes [], ?_⟩
    simp only [F1065, bs, Option.bind_assoc, dBin_add, show IntKind.wrap .i64 ((0 : Int) + 1) = 1 from rfl]
    rw [loopW_eq]
    simp [-bind_some, F1065_L0]
  obtain ⟨x, h65⟩ := h65
  have h63 : ∃ x, R fn1063 [d, .int .i64 0, cmp] h = some (x, h) := by
    rw [e1063]
    refine ⟨mkRes [], ?_⟩
    simp only [F1063, bs, Option.bind_assoc]
    rw [loopW_eq]
    have h20 : ¬ (20 : Int) ≤ 0 := by omega
    have h21 : ¬ (20 : Int) < 0 := by omega
    simp only [F1063_L0, nth_zero, nth_succ, bs, dBin_leq, h20, decide_false, dIf_bool, Bool.false_eq_true, if_false, unblk_self, toEnd_nrm, h65]
    rw [loopW_eq]
    simp only [F1063_L1, nth_zero, nth_succ, bs, dBin_lss, h21, decide_false, dIf_bool, Bool.false_eq_true, if_false, unblk_self, exEnd_nrm]
  obtain ⟨y, h63⟩ := h63
  refine ⟨mkRes [], ?_⟩
  rw [e1057]
  simp only [F1057, bs, hl, h63]
theorem s1052 (l : List (Str × Str)) (d : D) (h : Hp) (hd : SlOf 2 fld l d) (hl : l.length ≤ 20) : ∃ d' h', R fn1052 [d] h = some (.tup [d', .int .i64 (sortF l).1], h') ∧ h.length ≤ h'.length ∧ (∀ q, q < h.length → h'[q]? = h[q]?) ∧ ((sortF l).1 = 0 → RdF h' (sortF l).2 d') := by
  suffices Wp (R fn1052 [d] h) (fun p => ∃ d', p.1 = .tup [d', .int .i64 (sortF l).1] ∧ h.length ≤ p.2.length ∧ (∀ q, q < h.length → p.2[q]? = h[q]?) ∧ ((sortF l).1 = 0 → RdF p.2 (sortF l).2 d')) by
    obtain ⟨⟨x, h'⟩, h1, d', rfl, h2⟩ := this
    exact ⟨d', h', h1, h2⟩
  rw [e1052]
  have h32 : ¬ (32 : Int) < (l.length : Int) := by omega
  have h32n : ¬ 32 < l.length := by omega
  simp only [F1052, bs, Option.bind_assoc, lens29 hd, dBin_gtr, h32, decide_false, dIf_bool, Bool.false_eq_true, if_false]
  refine l1052a l d h hd (by omega) _ _ _ _ _ (fun hv x y z w => ?_) (fun hv x y z w => ?_)
  · simp only [unblk_self, toEnd_nrm, nth_zero, nth_succ, bs]
    obtain ⟨d1, h1, e1, hl1, hb1, hd1⟩ := u1009 l d h hd (by omega)
    simp only [e1, bs]
    have hsrt : ∃ x h2, R fn1057 [d1, .fn (.func fn1058) [] []] h1 = some (x, h2) ∧ h.length ≤ h2.length ∧ (∀ q, q < h.length → h2[q]? = h[q]?) ∧ RdF h2 (srt l) d1 := by
      rcases hd1 with ⟨rfl, hd1⟩ | ⟨ob, hob, rfl, ho⟩
      · obtain ⟨x, hx⟩ := s1057e d1 (.fn (.func fn1058) [] []) h1 hd1
        exact ⟨x, h1, hx, hl1, hb1, .inl hd1⟩
      · obtain ⟨x, h2, q1, q2, q3⟩ := s1057 cF (.fn (.func fn1058) [] []) (fun x y g => c1058 x y g) ob l.length hl l rfl h1 ho
        refine ⟨x, h2, q1, by have := q3.1; omega, fun q hq => (q3.2 q (by omega)).trans (hb1 q hq), .inr ⟨ob, by rw [srt_len], q2⟩⟩
    obtain ⟨u, h2, e2, hl2, hb2, hr⟩ := hsrt
    simp only [e2, bs]
    refine l1052b (srt l) d1 h2 hr (by rw [srt_len]; omega) _ _ _ _ (fun ha x y z => ?_) (fun ha x y z => ?_)
    · have hs : sortF l = (0, srt l) := by simp only [sortF, h32n, if_false, hv, if_true, ha, Bool.false_eq_true]
      rw [hs]
      simp only [unblk_self, toEnd_nrm, bs, mkRes_two]
      exact .some ⟨d1, rfl, hl2, hb2, fun _ => hr⟩
    · have hs : sortF l = (7, []) := by simp only [sortF, h32n, if_false, hv, if_true, ha]
      rw [hs]
      simp only [unblk_ret, toEnd_ret, exEnd_ret, nth_zero, nth_succ, bs, mkRes_two]
      exact .some ⟨.nils, rfl, hl2, hb2, fun hh => by cases hh⟩
  · have hs : sortF l = (6, []) := by simp only [sortF, h32n, if_false, hv]; rfl
    rw [hs]
    simp only [unblk_ret, toEnd_ret, exEnd_ret, nth_zero, nth_succ, bs, mkRes_two]
    exact .some ⟨.nils, rfl, Nat.le_refl _, fun _ _ => rfl, fun hh => by cases hh⟩
theorem s1053 (l r : List (Str × Str)) (d e : D) (h : Hp) (hd : RdF h l d) (he : RdF h r e) (hl : l.length ≤ 1000) : R fn1053 [d, e] h = some (.bool (decide (l = r)), h) := by
  suffices Wp (R fn1053 [d, e] h) (fun p => p = (.bool (decide (l = r)), h)) by
    obtain ⟨p, h1, rfl⟩ := this
    exact h1
  rw [e1053]
  simp only [F1053, bs, Option.bind_assoc, rdF_len hd, rdF_len he, dBin_neq]
  by_cases hlen : (l.length : Int) = (r.length : Int)
  · have hlen' : l.length = r.length := by omega
    simp only [hlen, ne_eq, not_true, decide_false, dIf_bool, Bool.false_eq_true, if_false]
    generalize hV : decide (l = r) = V
    refine Wp.loop (fun k ds g => g = h ∧ ∃ a b c f, ∃ i : Nat, ds = [a, b, .int .i64 i, c, f] ∧ k + i = r.length ∧ decide (l.drop i = r.drop i) = V)
      (fun x => x.2.2 = h ∧ ((x.1 = .ext 0 ∧ V = true) ∨ (x.1 = .ret ∧ V = false ∧ nth 0 x.2.1 = .bool false))) r.length ⟨rfl, _, _, _, _, 0, rfl, rfl, hV⟩ ?_ ?_
    · rintro k ds g ⟨rfl, a, b, c, f, i, rfl, hk, hch⟩
      simp only [F1053_L0, nth_zero, nth_succ, bs, Option.bind_assoc, dBin_lss]
      refine Wp.dif ?_ ?_
      · intro h0
        have h0 : i < r.length := by have : (i : Int) < r.length := by simpa using h0
                                     omega
        have gl : l[i]? = some l[i] := List.getElem?_eq_getElem (by omega)
        have gr : r[i]? = some r[i] := List.getElem?_eq_getElem h0
        have hw : IntKind.wrap .i64 ((i : Int) + 1) = ((i + 1 : Nat) : Int) := by
          rw [wrap_i64 (by omega) (by omega)]; omega
        rw [List.drop_eq_getElem_cons (show i < l.length by omega), List.drop_eq_getElem_cons h0] at hch
        generalize l[i] = x at gl hch
        generalize r[i] = y at gr hch
        obtain ⟨q1, a1, b1, _⟩ := rdF_ix hd i x gl
        obtain ⟨q0, a0, b0, _⟩ := rdF_ix he i y gr
        simp only [a1, a0, b1, b0, bs, fld_neq]
        by_cases hxy : x = y
        · subst hxy
          simp only [ne_eq, not_true, decide_false, dIf_bool, Bool.false_eq_true, if_false, dBin_add, bs, hw]
          exact .some (.inl ⟨rfl, k - 1, by omega, rfl, _, _, _, _, i + 1, rfl, by omega, by rw [← hch]; simp [-bind_some]⟩)
        · have hne : decide (x ≠ y) = true := by simpa using hxy
          simp only [hne, dIf_bool, if_true]
          exact .some (.inr ⟨by simp, rfl, .inr ⟨rfl, by rw [← hch]; simp [-bind_some, hxy], rfl⟩⟩)
      · intro h0
        have h0 : r.length ≤ i := by have : ¬ (i : Int) < r.length := by simpa using h0
                                     omega
        rw [List.drop_of_length_le h0, List.drop_of_length_le (by omega)] at hch
        exact .some (.inr ⟨by simp, rfl, .inl ⟨rfl, by rw [← hch]; simp [-bind_some]⟩⟩)
    · rintro ⟨x, ds, g⟩ ⟨h2, h3⟩
      simp only at h2 h3
      subst h2
      rcases h3 with ⟨rfl, hv⟩ | ⟨rfl, hv, hn⟩
      · simp only [unblk_self, toEnd_nrm, bs, mkRes_one, hv]
        exact .some rfl
      · simp only [unblk_ret, toEnd_ret, exEnd_ret, nth_zero, bs, hn, mkRes_one, hv]
        exact .some rfl
  · have hne : decide ((l.length : Int) ≠ (r.length : Int)) = true := by simpa using hlen
    have hlr : decide (l = r) = false := by
      simp [-bind_some]; intro hh; subst hh; exact hlen rfl
    simp only [hne, dIf_bool, if_true, mkRes_one, hlr]
    exact .some rfl
theorem l1060 (l : List (Str × Str)) (d : D) (fn : D) (pr : Str × Str → Bool) (h : Hp) (hd : RdF h l d) (hl : l.length ≤ 9223372036854775807) (hf : ∀ x, callV R fn [.agg (fld x)] h = some (.bool (pr x), h)) {β : Type} (K : Out → Option β) (X : Int → Option β)
   (hX : ∀ v r, K (.ret, .int .i64 v :: r, h) = X v) (hY : ∀ r, K (.ext 0, r, h) = X (-1)) : ∀ (suf pre : List (Str × Str)), l = pre ++ suf → ∀ a b e f,
   (loopW (F1060_L0 d fn (.int .i64 l.length)) [a, b, .int .i64 pre.length, e, f] h).bind K = X (idx pr pre.length suf) := by
  intro suf
  induction suf with
  | nil =>
    rintro pre rfl a b e f
    rw [loopW_eq]
    simp [-bind_some, F1060_L0, hY, idx]
  | cons p suf ih =>
    rintro pre rfl a b e f
    have hw : IntKind.wrap .i64 ((pre.length : Int) + 1) = (pre ++ [p]).length := by
      rw [wrap_i64 (by omega) (by simp at hl; omega)]; simp [-bind_some]
    have hlt : (pre.length : Int) < (pre ++ p :: suf).length := by simp; omega
    rw [loopW_eq]
    generalize hL : pre ++ p :: suf = L at *
    have hg : L[pre.length]? = some p := by rw [← hL]; exact get_mid _ _ _
    obtain ⟨q, a1, b1, _⟩ := rdF_ix hd _ _ hg
    by_cases hp : pr p = true
    · simp [-bind_some, F1060_L0, a1, b1, hlt, hf, hp, hX, idx]
    · have := ih (pre ++ [p]) (by simp [-bind_some, ← hL]) a (.int .i64 pre.length) (.bool true) (.bool (pr p))
      simp only [← hw] at this
      simp [-bind_some, F1060_L0, a1, b1, hlt, hf, hp, idx]
      simp [-bind_some, hp] at this
      exact this
theorem s1060 (l : List (Str × Str)) (d : D) (fn : D) (pr : Str × Str → Bool) (h : Hp) (hd : RdF h l d) (hl : l.length ≤ 9223372036854775807) (hf : ∀ x, callV R fn [.agg (fld x)] h = some (.bool (pr x), h)) :
   R fn1060 [d, fn] h = some (.int .i64 (idx pr 0 l), h) := by
  rw [e1060]
  simp only [F1060, bs, rdF_len hd, Option.bind_assoc]
  rw [show (0 : Int) = (([] : List (Str × Str)).length : Int) from rfl, l1060 l d fn pr h hd hl hf _ (fun v => some (.int .i64 v, h)) (fun v r => by simp) (fun r => by simp) l [] rfl]
  rfl
theorem s1055 (p : Str × Str) (h : Hp) : R fn1055 [.agg (fld p)] h = some (.bool (decide (2000 < p.2.length)), h) := by
  rw [e1055]
  simp [-bind_some, F1055, fld]
  omega
theorem s1054 (l : List (Str × Str)) (d : D) (h : Hp) (hd : RdF h l d) (hl : l.length ≤ 9223372036854775807) : R fn1054 [d, .fn (.func fn1055) [] []] h = some (.bool (l.any fun p => decide (2000 < p.2.length)), h) := by
  rw [e1054]
  simp only [F1054, bs, s1060 l d (.fn (.func fn1055) [] []) (fun p => decide (2000 < p.2.length)) h hd hl (fun x => by rw [callV_some]; exact s1055 x h), dBin_geq, mkRes_one]
  rw [idx_any]
theorem s1050 (l : Lin) (h : Hp) : R fn1050 [.agg (linr l)] h = some (.bool (!(l.txt == [])), h) := by
  rw [e1050]
  simp [-bind_some, F1050, linr]
theorem s1049 (l : List Lin) (d : D) (h : Hp) (hd : SlOf 3 linr l d) (hl : l.length ≤ 9223372036854775807) : R fn1049 [d, .fn (.func fn1050) [] []] h = some (.bool (l.any fun p => !(p.txt == [])), h) := by
  rw [e1049]
  simp only [F1049, bs, s1006 l d (.fn (.func fn1050) [] []) (fun p => !(p.txt == [])) h hd hl (fun x => by rw [callV_some]; exact s1050 x h), dBin_geq, mkRes_one]
  rw [idx_any]
def evE (e : Ev) : Int :=
  if (!plB e || !(decide (0 ≤ e.a5) && decide (e.a5 ≤ 253402300799999))) = true then 2
  else if e.a6 < 1 ∨ Int.tmod 5040 e.a6 ≠ 0 then 21
  else if linesE e 2000 ≠ 0 then linesE e 2000
  else if 32 < e.s7.length ∨ 32 < e.s8.length then 3
  else if (sortF e.fs).1 ≠ 0 then (sortF e.fs).1
  else if (sortF e.fs).2 ≠ e.fs then 19
  else if ((sortF e.fs).2.any fun p => decide (2000 < p.2.length)) = true then 3 else 0
theorem sortF_len (l : List (Str × Str)) : (sortF l).2.length ≤ l.length := by
  unfold sortF
  split
  · simp [-bind_some]
  · split
    · split
      · simp [-bind_some]
      · simp [-bind_some, srt_len]
    · simp [-bind_some]
theorem sortF_32 (l : List (Str × Str)) : (sortF l).2.length ≤ 32 := by
  by_cases h : 32 < l.length
  · simp [-bind_some, sortF, h]
  · have := sortF_len l
    omega
theorem s1043g (e : Ev) (h : Hp) (hsrt : ∀ p : Hp, ∃ d' h', R fn1052 [e.fd] p = some (.tup [d', .int .i64 (sortF e.fs).1], h') ∧ p.length ≤ h'.length ∧ (∀ q, q < p.length → h'[q]? = p[q]?) ∧ ((sortF e.fs).1 = 0 → RdF h' (sortF e.fs).2 d')) : R fn1043 [.agg (evr e)] h = some (.int .i64 (evE e), h) := by
  suffices Wp (R fn1043 [.agg (evr e)] h) (fun p => p = (.int .i64 (evE e), h)) by
    obtain ⟨p, h1, rfl⟩ := this
    exact h1
  have sc : ∀ (g : Hp) (v : Int), h.length ≤ g.length → (∀ q, q < h.length → g[q]? = h[q]?) → scope h g (.int .i64 v) = some (.int .i64 v, h) := fun g v h1 h2 => scope_eq (by simp) (.int _ _) h1 h2
  have k1 := s1051 e.a5 0 253402300799999 h
  rw [e1043]
  simp only [F1043, pBoxF_agg, bs, Option.bind_assoc, evL, s1047, mkRes_one]
  have q5 : dFieldAddr tab ty31 5 (.fptr (evr e)) = some (.fptr [.int .i64 e.a5, .int .i64 e.a6, .str e.s7, .str e.s8, e.fd]) := id rfl
  have q6 : dFieldAddr tab ty31 6 (.fptr (evr e)) = some (.fptr [.int .i64 e.a6, .str e.s7, .str e.s8, e.fd]) := id rfl
  have q7 : dFieldAddr tab ty31 7 (.fptr (evr e)) = some (.fptr [.str e.s7, .str e.s8, e.fd]) := id rfl
  have q8 : dFieldAddr tab ty31 8 (.fptr (evr e)) = some (.fptr [.str e.s8, e.fd]) := id rfl
  have q9 : dFieldAddr tab ty31 9 (.fptr (evr e)) = some (.fptr [e.fd]) := id rfl
  unfold evE
  generalize hb1 : plB e = b1
  generalize hb2 : (decide (0 ≤ e.a5) && decide (e.a5 ≤ 253402300799999)) = b2 at k1 ⊢
  have first : ∀ {β : Type} (f : D → D × Hp → D → Option β) (Q : β → Prop), (∀ x p t, p.2 = h → t = .bool (!b1 || !b2) → Wp (f x p t) Q) → Wp ((dUn .not (.bool b1)).bind fun t9 => (gd t9 false (some (.fptr [.int .i64 e.a5, .int .i64 e.a6, .str e.s7, .str e.s8, e.fd]))).bind fun t11 => (gd t9 false (dLoad tab h ty3 t11)).bind fun t12 => (gdW t9 false h (R fn1051 [t12, .int .i64 0, .int .i64 253402300799999] h)).bind fun p13 => (gd t9 false (dUn .not p13.1)).bind fun t14 => (dPick t9 (.bool true) t14).bind fun t15 => f t9 p13 t15) Q := fun f Q hk => by
    cases b1
    · simp only [dUn_not, Bool.not_false, bs, gd_bool, gdW_bool, reduceCtorEq, if_false, dPick_bool, if_true]
      exact hk _ _ _ rfl rfl
    · simp only [dUn_not, Bool.not_true, bs, gd_bool, gdW_bool, if_true, ld3, k1, dPick_bool, Bool.false_eq_true, if_false]
      exact hk _ _ _ rfl (by simp)
  simp only [q5, q6, q7, q8, q9]
  refine first _ _ fun x p t hp ht => ?_
  subst ht
  obtain ⟨px, p⟩ := p
  simp only at hp
  subst hp
  clear first
  simp only [dIf_bool]
  by_cases c1 : (!b1 || !b2) = true
  · simp only [c1, if_true, sc _ _ (Nat.le_refl _) (fun _ _ => rfl)]
    exact .some rfl
  simp only [c1, if_false, Bool.false_eq_true, ld3, ld9, ld29, bs, dBin_lss, len9, dBin_gtr, dBin_rem, dBin_neq]
  by_cases c2 : e.a6 < 1
  · simp only [c2, true_or, decide_true, if_true, gd_bool, reduceCtorEq, if_false, Bool.true_eq_false, bs, dPick_bool, dIf_bool, sc _ _ (Nat.le_refl _) (fun _ _ => rfl)]
    exact .some rfl
  have c20 : ¬ e.a6 = 0 := by omega
  by_cases c3n : ¬ Int.tmod 5040 e.a6 = 0
  · have c3 := c3n
    simp only [c2, c20, c3, ne_eq, not_false_eq_true, or_true, decide_true, decide_false, if_true, gd_bool, if_false, Bool.false_eq_true, bs, dPick_bool, dIf_bool, ld3, dBin_rem, dBin_neq, sc _ _ (Nat.le_refl _) (fun _ _ => rfl)]
    exact .some rfl
  have c3 : Int.tmod 5040 e.a6 = 0 := Decidable.not_not.1 c3n
  simp only [c2, c20, c3, ne_eq, not_true, or_self, decide_false, if_true, gd_bool, if_false, Bool.false_eq_true, bs, dPick_bool, dIf_bool, ld3, dBin_rem, dBin_neq, s1048]
  generalize hL : linesE e 2000 = L
  by_cases c4n : ¬ L = 0
  · have c4 := c4n
    simp only [c4, ne_eq, not_false_eq_true, decide_true, if_true, sc _ _ (Nat.le_refl _) (fun _ _ => rfl)]
    exact .some rfl
  have c4 : L = 0 := Decidable.not_not.1 c4n
  subst c4
  simp only [ne_eq, not_true, decide_false, Bool.false_eq_true, if_false, if_true]
  by_cases c5 : 32 < e.s7.length
  · have c5' : (32 : Int) < (e.s7.length : Int) := by omega
    simp only [c5, c5', true_or, decide_true, if_true, gd_bool, reduceCtorEq, if_false, Bool.true_eq_false, bs, dPick_bool, dIf_bool, sc _ _ (Nat.le_refl _) (fun _ _ => rfl)]
    exact .some rfl
  have c5' : ¬ (32 : Int) < (e.s7.length : Int) := by omega
  by_cases c6 : 32 < e.s8.length
  · have c6' : (32 : Int) < (e.s8.length : Int) := by omega
    simp only [c5, c5', c6, c6', or_true, decide_true, decide_false, if_true, gd_bool, if_false, Bool.false_eq_true, bs, ld9, len9, dBin_gtr, dPick_bool, sc _ _ (Nat.le_refl _) (fun _ _ => rfl)]
    exact .some rfl
  have c6' : ¬ (32 : Int) < (e.s8.length : Int) := by omega
  obtain ⟨d', h', hs, hl', hb', hr'⟩ := hsrt p
  simp only [c5, c5', c6, c6', or_self, decide_false, if_true, gd_bool, if_false, Bool.false_eq_true, bs, ld9, len9, dBin_gtr, dPick_bool, dIf_bool, hs, dExtract_tup, List.getElem?_cons_zero, List.getElem?_cons_succ]
  have hsl := sortF_32 e.fs
  generalize hS : sortF e.fs = S at hs hr' hsl
  obtain ⟨v, s⟩ := S
  simp only at hr' hsl ⊢
  by_cases c7n : ¬ v = 0
  · have c7 := c7n
    simp only [c7, ne_eq, not_false_eq_true, decide_true, if_true, sc _ _ hl' hb', dIf_bool, dBin_neq, bs]
    exact .some rfl
  have c7 : v = 0 := Decidable.not_not.1 c7n
  subst c7
  have hr := hr' rfl
  have hfd : RdF h' e.fs e.fd := .inl e.hfd
  simp only [ne_eq, not_true, decide_false, Bool.false_eq_true, if_false, dIf_bool, dBin_neq, s1053 s e.fs d' e.fd h' hr hfd (by omega), bs, dUn_not, s1054 s d' h' hr (by omega)]
  by_cases c8n : ¬ s = e.fs
  · have c8 := c8n
    simp only [c8, not_false_eq_true, decide_false, Bool.not_false, if_true, sc _ _ hl' hb', dIf_bool, dBin_neq, bs]
    exact .some rfl
  have c8 : s = e.fs := Decidable.not_not.1 c8n
  subst c8
  simp only [not_true, decide_true, Bool.not_true, if_false, Bool.false_eq_true, sc _ _ hl' hb', dIf_bool, dBin_neq, bs]
  split
  · exact .some rfl
  · exact .some rfl
end Go.Proofs.YtlpedofpnbggbaaDoor
