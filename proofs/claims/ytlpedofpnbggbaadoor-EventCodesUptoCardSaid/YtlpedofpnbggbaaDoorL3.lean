/- Laws, on plain data, about functions that the statement reaches. -/
import Derived.Test.YtlpedofpnbggbaaDoorL2
set_option linter.unusedSimpArgs false
set_option linter.unusedVariables false
set_option linter.unnecessarySimpa false
set_option maxRecDepth 100000
namespace Go.Proofs.YtlpedofpnbggbaaDoor
open Go.Eng Go.Pi
open Option (bind_some)
theorem s1043 (e : Ev) (h : Hp) (hf : e.fs.length ≤ 20) : R fn1043 [.agg (evr e)] h = some (.int .i64 (evE e), h) := s1043g e h fun p => s1052 e.fs e.fd p e.hfd hf
def itE (i : It) : Int :=
  if i.r = [] then evE i.e
  else if 32 < i.r.length then 3
  else if plB i.e = false then 2
  else if linesE i.e 60000 = 9 ∨ linesE i.e 60000 = 4 ∨ linesE i.e 60000 = 19 then linesE i.e 60000
  else if i.e.a5 ≠ 0 ∨ i.e.a6 ≠ 0 ∨ i.e.s7 ≠ [] ∨ i.e.s8 ≠ [] ∨ i.e.fs.length ≠ 0 ∨ (i.e.ls.any fun p => !(p.txt == [])) = true then 19 else 0
theorem s1042g (i : It) (h : Hp) (hc : R fn1043 [.agg (evr i.e)] h = some (.int .i64 (evE i.e), h)) : R fn1042 [.agg (itr i)] h = some (.int .i64 (itE i), h) := by
  have hbx : boxN 10 (.agg (evr i.e)) = some (.fptr (evr i.e)) := boxN_agg 10 _ rfl
  have q4 : dFieldAddr tab ty31 4 (.fptr (evr i.e)) = some (.fptr [i.e.ld, .int .i64 i.e.a5, .int .i64 i.e.a6, .str i.e.s7, .str i.e.s8, i.e.fd]) := id rfl
  have q5 : dFieldAddr tab ty31 5 (.fptr (evr i.e)) = some (.fptr [.int .i64 i.e.a5, .int .i64 i.e.a6, .str i.e.s7, .str i.e.s8, i.e.fd]) := id rfl
  have q6 : dFieldAddr tab ty31 6 (.fptr (evr i.e)) = some (.fptr [.int .i64 i.e.a6, .str i.e.s7, .str i.e.s8, i.e.fd]) := id rfl
  have q7 : dFieldAddr tab ty31 7 (.fptr (evr i.e)) = some (.fptr [.str i.e.s7, .str i.e.s8, i.e.fd]) := id rfl
  have q8 : dFieldAddr tab ty31 8 (.fptr (evr i.e)) = some (.fptr [.str i.e.s8, i.e.fd]) := id rfl
  have q9 : dFieldAddr tab ty31 9 (.fptr (evr i.e)) = some (.fptr [i.e.fd]) := id rfl
  rw [e1042]
  simp only [F1042, pBoxF_agg, bs, itF0, itF1, itL0, evL, hbx, dBin_seql, mkRes_one]
  unfold itE
  by_cases c0 : i.r = []
  · simp only [c0, beq_self_eq_true, dIf_bool, if_true, hc, bs]
  have c0' : (i.r == []) = false := by simpa using c0
  simp only [c0, c0', dIf_bool, Bool.false_eq_true, if_false, len9, bs, dBin_gtr]
  by_cases c1 : 32 < i.r.length
  · have c1' : (32 : Int) < (i.r.length : Int) := by omega
    simp only [c1, c1', decide_true, if_true]
  have c1' : ¬ (32 : Int) < (i.r.length : Int) := by omega
  simp only [c1, c1', decide_false, Bool.false_eq_true, if_false, s1047, bs, dUn_not]
  cases hb : plB i.e
  · simp only [Bool.not_false, dIf_bool, if_true]
  simp only [Bool.not_true, dIf_bool, Bool.false_eq_true, Bool.true_eq_false, if_false, s1048, bs, dBin_eql]
  generalize linesE i.e 60000 = L
  by_cases c2 : L = 9
  · subst c2
    simp [-bind_some]
  by_cases c3 : L = 4
  · subst c3
    simp [-bind_some]
  by_cases c4 : L = 19
  · subst c4
    simp [-bind_some]
  simp only [c2, c3, c4, or_self, decide_false, gd_bool, if_true, bs, dPick_bool, dIf_bool, Bool.false_eq_true, if_false, q5, q6, q7, q8, q9, q4, ld3, ld9, ld29, ld28, dBin_neq]
  have hfl : (i.e.fs.length : Int) = 0 ↔ i.e.fs.length = 0 := by omega
  have h49 := s1049 i.e.ls i.e.ld h i.e.hld i.e.hll
  generalize (i.e.ls.any fun p => !(p.txt == [])) = bb at h49 ⊢
  by_cases d1n : ¬ i.e.a5 = 0
  · simp only [c2, c3, c4, dBin_eql, d1n, ne_eq, not_true, not_false_eq_true, true_or, or_true, false_or, or_false, decide_true, decide_false, gd_bool, gdW_bool, gd_und, gdW_und, reduceCtorEq, if_true, if_false, Bool.false_eq_true, Bool.true_eq_false, bs, dPick_bool, dIf_bool, ld3, ld9, ld29, ld28, dBin_neq, dBin_sneq, lens29 i.e.hfd, hfl, h49, beq_self_eq_true, Bool.not_true, Bool.not_false, or_self]
  have d1 : i.e.a5 = 0 := Decidable.not_not.1 d1n
  by_cases d2n : ¬ i.e.a6 = 0
  · simp only [c2, c3, c4, dBin_eql, d1, d2n, ne_eq, not_true, not_false_eq_true, true_or, or_true, false_or, or_false, decide_true, decide_false, gd_bool, gdW_bool, gd_und, gdW_und, reduceCtorEq, if_true, if_false, Bool.false_eq_true, Bool.true_eq_false, bs, dPick_bool, dIf_bool, ld3, ld9, ld29, ld28, dBin_neq, dBin_sneq, lens29 i.e.hfd, hfl, h49, beq_self_eq_true, Bool.not_true, Bool.not_false, or_self]
  have d2 : i.e.a6 = 0 := Decidable.not_not.1 d2n
  by_cases d3n : ¬ i.e.s7 = []
  · have d3b : (i.e.s7 == []) = false := by simpa using d3n
    simp only [c2, c3, c4, dBin_eql, d1, d2, d3n, d3b, ne_eq, not_true, not_false_eq_true, true_or, or_true, false_or, or_false, decide_true, decide_false, gd_bool, gdW_bool, gd_und, gdW_und, reduceCtorEq, if_true, if_false, Bool.false_eq_true, Bool.true_eq_false, bs, dPick_bool, dIf_bool, ld3, ld9, ld29, ld28, dBin_neq, dBin_sneq, lens29 i.e.hfd, hfl, h49, beq_self_eq_true, Bool.not_true, Bool.not_false, or_self]
  have d3 : i.e.s7 = [] := Decidable.not_not.1 d3n
  by_cases d4n : ¬ i.e.s8 = []
  · have d4b : (i.e.s8 == []) = false := by simpa using d4n
    simp only [c2, c3, c4, dBin_eql, d1, d2, d3, d4n, d4b, ne_eq, not_true, not_false_eq_true, true_or, or_true, false_or, or_false, decide_true, decide_false, gd_bool, gdW_bool, gd_und, gdW_und, reduceCtorEq, if_true, if_false, Bool.false_eq_true, Bool.true_eq_false, bs, dPick_bool, dIf_bool, ld3, ld9, ld29, ld28, dBin_neq, dBin_sneq, lens29 i.e.hfd, hfl, h49, beq_self_eq_true, Bool.not_true, Bool.not_false, or_self]
  have d4 : i.e.s8 = [] := Decidable.not_not.1 d4n
  by_cases d5n : ¬ i.e.fs.length = 0
  · simp only [c2, c3, c4, dBin_eql, d1, d2, d3, d4, d5n, ne_eq, not_true, not_false_eq_true, true_or, or_true, false_or, or_false, decide_true, decide_false, gd_bool, gdW_bool, gd_und, gdW_und, reduceCtorEq, if_true, if_false, Bool.false_eq_true, Bool.true_eq_false, bs, dPick_bool, dIf_bool, ld3, ld9, ld29, ld28, dBin_neq, dBin_sneq, lens29 i.e.hfd, hfl, h49, beq_self_eq_true, Bool.not_true, Bool.not_false, or_self]
  have d5 : i.e.fs.length = 0 := Decidable.not_not.1 d5n
  simp only [c2, c3, c4, dBin_eql, d1, d2, d3, d4, d5, ne_eq, not_true, not_false_eq_true, true_or, or_true, false_or, or_false, decide_true, decide_false, gd_bool, gdW_bool, gd_und, gdW_und, reduceCtorEq, if_true, if_false, Bool.false_eq_true, Bool.true_eq_false, bs, dPick_bool, dIf_bool, ld3, ld9, ld29, ld28, dBin_neq, dBin_sneq, lens29 i.e.hfd, hfl, h49, beq_self_eq_true, Bool.not_true, Bool.not_false, or_self]
  cases bb <;> simp [-bind_some, h49]
def RdL (h : Hp) (l : List Lin) (d : D) : Prop := SlOf 3 linr l d ∨ ∃ ob, d = .msl 3 ob 0 l.length ∧ h[ob]? = some (Ob.row ty78 3 (l.map linr))
theorem rdL_len {h : Hp} {l : List Lin} {d : D} (hd : RdL h l d) : dLenT tab ty28 d = some (.int .i64 l.length) := by
  rcases hd with hd | ⟨ob, rfl, _⟩
  · exact lens28 hd
  · exact lenm28 _ _ _ _
theorem ldobL {h : Hp} {q k T z : Nat} {rows : List (List D)} {p : Lin} (hq : h[q]? = some (Ob.row T z rows)) (hk : rows[k]? = some (linr p)) : dLoad tab h ty78 (.ptr q k 0) = some (.agg (linr p)) := by
  rw [ldp78, row_of hq, hk]
  rfl
theorem rdL_ix {h : Hp} {l : List Lin} {d : D} (hd : RdL h l d) (i : Nat) (p : Lin) (hp : l[i]? = some p) : ∃ q, dIndexAddr tab ty28 d (.int .i64 i) = some q ∧ dLoad tab h ty78 q = some (.agg (linr p)) := by
  have hi := (List.getElem?_eq_some_iff.1 hp).1
  rcases hd with hd | ⟨ob, rfl, ho⟩
  · exact ⟨.fptr (linr p), by rw [ixs28 hd]; simp [-bind_some, hp], linr_ld p h⟩
  · have hr : (l.map linr)[i]? = some (linr p) := by rw [List.getElem?_map, hp]; rfl
    have hh : (0 : Int) ≤ (i : Int) ∧ (i : Int) < (l.length : Int) := by omega
    exact ⟨.ptr ob i 0, by rw [ixm28]; simp [-bind_some, hh], ldobL ho hr⟩
theorem lr1006 (l : List Lin) (d : D) (fn : D) (pr : Lin → Bool) (h : Hp) (hd : RdL h l d) (hl : l.length ≤ 9223372036854775807) (hf : ∀ x, callV R fn [.agg (linr x)] h = some (.bool (pr x), h)) {β : Type} (K : Out → Option β) (X : Int → Option β)
   (hX : ∀ v r, K (.ret, .int .i64 v :: r, h) = X v) (hY : ∀ r, K (.ext 0, r, h) = X (-1)) : ∀ (suf pre : List Lin), l = pre ++ suf → ∀ a b e f,
   (loopW (F1006_L0 d fn (.int .i64 l.length)) [a, b, .int .i64 pre.length, e, f] h).bind K = X (idx pr pre.length suf) := by
  intro suf
  induction suf with
  | nil =>
    rintro pre rfl a b e f
    rw [loopW_eq]
    simp [-bind_some, F1006_L0, hY, idx]
  | cons p suf ih =>
    rintro pre rfl a b e f
    have hw : IntKind.wrap .i64 ((pre.length : Int) + 1) = (pre ++ [p]).length := by
      rw [wrap_i64 (by omega) (by simp at hl; omega)]; simp [-bind_some]
    have hlt : (pre.length : Int) < (pre ++ p :: suf).length := by simp; omega
    rw [loopW_eq]
    generalize hL : pre ++ p :: suf = L at *
    have hg : L[pre.length]? = some p := by rw [← hL]; exact get_mid _ _ _
    obtain ⟨q, a1, b1⟩ := rdL_ix hd _ _ hg
    by_cases hp : pr p = true
    · simp [-bind_some, F1006_L0, a1, b1, hlt, hf, hp, hX, idx]
    · have := ih (pre ++ [p]) (by simp [-bind_some, ← hL]) a (.int .i64 pre.length) (.bool true) (.bool (pr p))
      simp only [← hw] at this
      simp [-bind_some, F1006_L0, a1, b1, hlt, hf, hp, idx]
      simp [-bind_some, hp] at this
      exact this
theorem r1006 (l : List Lin) (d : D) (fn : D) (pr : Lin → Bool) (h : Hp) (hd : RdL h l d) (hl : l.length ≤ 9223372036854775807) (hf : ∀ x, callV R fn [.agg (linr x)] h = some (.bool (pr x), h)) :
   R fn1006 [d, fn] h = some (.int .i64 (idx pr 0 l), h) := by
  rw [e1006]
  simp only [F1006, bs, rdL_len hd, Option.bind_assoc]
  rw [show (0 : Int) = (([] : List Lin).length : Int) from rfl, lr1006 l d fn pr h hd hl hf _ (fun v => some (.int .i64 v, h)) (fun v r => by simp) (fun r => by simp) l [] rfl]
  rfl
theorem u1008 (l : List Lin) (d : D) (h : Hp) (hd : SlOf 3 linr l d) (hl : l.length ≤ 1000000) : ∃ d' h', R fn1008 [d] h = some (d', h') ∧ h.length ≤ h'.length ∧ (∀ q, q < h.length → h'[q]? = h[q]?) ∧
    ((l = [] ∧ SlOf 3 linr [] d') ∨ ∃ ob, h.length ≤ ob ∧ d' = .msl 3 ob 0 l.length ∧ h'[ob]? = some (Ob.row ty78 3 (l.map linr))) := by
  rw [e1008]
  rcases hd with ⟨rfl, rfl⟩ | ⟨b, rfl⟩
  · exact ⟨.nils, h, by
      have hne : dBin tab .eql ty28 .nils .nils = some (.bool true) := id rfl
      simp [-bind_some, F1008, hne], Nat.le_refl _, fun _ _ => rfl, .inl ⟨rfl, .nils _ _⟩⟩
  · obtain ⟨x', h', e, hl', hq, ho⟩ := app_full (T := tab) (t := ty28) (i := ti28) (j := ti78) (h := h) (id rfl) (id rfl) (id rfl) (by decide) (y := .sl 3 b (l.map linr)) (rowsOf_sl _ _ _ _) (lim_ok (by have : ti78.by_ = 32 := rfl; rw [this, List.length_map]; omega) (by rw [List.length_map]; omega))
    have e' : dAppend tab h ty28 ty28 (.sl 3 true []) (.sl 3 b (l.map linr)) = some (x', h') := e
    have hne : dBin tab .eql ty28 (.sl 3 b (l.map linr)) .nils = some (.bool false) := id rfl
    refine ⟨x', h', ?_, hl', hq, ?_⟩
    · simp only [F1008, bs, hne, dIf_bool, Bool.false_eq_true, if_false, bs28_0, e', mkRes_one]
    · rcases ho with ⟨rfl, hn⟩ | ⟨rfl, hn⟩ | ⟨ob, h1, rfl, h2⟩
      · have : l = [] := by simpa using hn
        exact .inl ⟨this, .inr ⟨true, rfl⟩⟩
      · have : l = [] := by simpa using hn
        exact .inl ⟨this, .nils _ _⟩
      · exact .inr ⟨ob, h1, by rw [List.length_map]; rfl, h2⟩
theorem idx_fil {α : Type} (pr : α → Bool) : ∀ (l : List α) (n : Nat), (idx pr n l = -1 ∧ ∀ x ∈ l, pr x = false) ∨ ∃ k, idx pr n l = ((n + k : Nat) : Int) ∧ k < l.length ∧ (l.take (k + 1)).filter (fun x => !pr x) = l.take k ∧ ∃ x ∈ l, pr x = true
  | [], n => .inl ⟨rfl, by simp⟩
  | x :: r, n => by
    by_cases hx : pr x = true
    · exact .inr ⟨0, by simp [-bind_some, idx, hx], by simp, by simp [-bind_some, hx], x, by simp, hx⟩
    · have hx' : pr x = false := by simpa using hx
      have he : idx pr n (x :: r) = idx pr (n + 1) r := by simp [-bind_some, idx, hx]
      rcases idx_fil pr r (n + 1) with ⟨h1, h2⟩ | ⟨k, h1, h2, h3, y, hy, hy2⟩
      · left
        refine ⟨by rw [he]; exact h1, fun y hy => ?_⟩
        rcases List.mem_cons.1 hy with rfl | hy
        · exact hx'
        · exact h2 y hy
      · right
        refine ⟨k + 1, by rw [he, h1]; omega, by simpa using h2, ?_, y, by simp [-bind_some, hy], hy2⟩
        rw [List.take_succ_cons, List.filter_cons, if_pos (by simp [-bind_some, hx']), h3, List.take_succ_cons]
theorem u1045 (l : List Lin) (fn : D) (pr : Lin → Bool) (h : Hp) (ob : Nat) (ho : h[ob]? = some (Ob.row ty78 3 (l.map linr))) (hl : l.length ≤ 1000000) (hf : ∀ x g, callV R fn [.agg (linr x)] g = some (.bool (pr x), g)) :
    ∃ h' z, R fn1045 [.msl 3 ob 0 l.length, fn] h = some (.msl 3 ob 0 (l.filter fun x => !pr x).length, h') ∧ Same ob h h' ∧ h'[ob]? = some (Ob.row ty78 3 ((l.filter fun x => !pr x).map linr ++ z)) := by
  suffices Wp (R fn1045 [.msl 3 ob 0 l.length, fn] h) (fun p => p.1 = .msl 3 ob 0 (l.filter fun x => !pr x).length ∧ Same ob h p.2 ∧ ∃ z, p.2[ob]? = some (Ob.row ty78 3 ((l.filter fun x => !pr x).map linr ++ z))) by
    obtain ⟨⟨x, h'⟩, h1, rfl, h2, z, h3⟩ := this
    exact ⟨h', z, h1, h2, h3⟩
  have hlt := (List.getElem?_eq_some_iff.1 ho).1
  have sc : ∀ (g : Hp) (d : D), Same ob h g → True := fun _ _ _ => trivial
  rw [e1045]
  simp only [F1045, bs, Option.bind_assoc, r1006 l _ fn pr h (.inr ⟨ob, rfl, ho⟩) (by omega) (fun x => hf x h), dBin_eql, mkRes_one]
  rcases idx_fil pr l 0 with ⟨h1, h2⟩ | ⟨k, h1, h2, h3, _⟩
  · have hfl : l.filter (fun x => !pr x) = l := by
      rw [List.filter_eq_self]
      intro x hx; simp [-bind_some, h2 x hx]
    simp only [h1, decide_true, dIf_bool, if_true, hfl]
    exact .some ⟨rfl, .refl _ _, [], by simpa using ho⟩
  · rw [Nat.zero_add] at h1
    have hne : ¬ ((k : Int) = -1) := by omega
    have hw : IntKind.wrap .i64 ((k : Int) + 1) = ((k + 1 : Nat) : Int) := by rw [wrap_i64 (by omega) (by omega)]; omega
    simp only [h1, hne, decide_false, dIf_bool, Bool.false_eq_true, if_false, dBin_add, hw, bs]
    refine Wp.loop (fun n ds g => ∃ (i j : Nat) (a b c : D) (l' : List Lin), n + j = l.length ∧ ds = [.int .i64 i, .int .i64 j, a, b, c] ∧ l'.length = l.length ∧ i < j ∧ g[ob]? = some (Ob.row ty78 3 (l'.map linr)) ∧ Same ob h g ∧ l'.take i = (l.take j).filter (fun x => !pr x) ∧ ∀ q, j ≤ q → l'[q]? = l[q]?)
      (fun r => r.1 = .ext 0 ∧ ∃ (i : Nat) (a b c d : D) (l' : List Lin), r.2.1 = [.int .i64 i, a, b, c, d] ∧ l'.length = l.length ∧ i < l.length ∧ r.2.2[ob]? = some (Ob.row ty78 3 (l'.map linr)) ∧ Same ob h r.2.2 ∧ l'.take i = l.filter (fun x => !pr x))
      (l.length - (k + 1)) ⟨k, k + 1, .any, .any, .any, l, by omega, rfl, rfl, by omega, ho, .refl _ _, h3.symm, fun _ _ => rfl⟩ ?_ ?_
    · rintro n ds g ⟨i, j, a, b, c, l', hn, rfl, hl', hij, hg, sm, htk, hdr⟩
      simp only [F1045_L0, nth_zero, nth_succ, bs, Option.bind_assoc, lenm28, dBin_lss]
      refine Wp.dif ?_ ?_
      · intro h0
        have h0 : j < l.length := by have : (j : Int) < (l.length : Int) := by simpa using h0
                                     omega
        have gj : l[j]? = some l[j] := List.getElem?_eq_getElem h0
        have gj' : l'[j]? = some l[j] := by rw [hdr j (Nat.le_refl _)]; exact gj
        have hw2 : IntKind.wrap .i64 ((j : Int) + 1) = ((j + 1 : Nat) : Int) := by rw [wrap_i64 (by omega) (by omega)]; omega
        have hw3 : IntKind.wrap .i64 ((i : Int) + 1) = ((i + 1 : Nat) : Int) := by rw [wrap_i64 (by omega) (by omega)]; omega
        have hjj : (0 : Int) ≤ (j : Int) ∧ (j : Int) < (l.length : Int) := by omega
        have hii : (0 : Int) ≤ (i : Int) ∧ (i : Int) < (l.length : Int) := by omega
        have hts : (l.take (j + 1)).filter (fun x => !pr x) = (l.take j).filter (fun x => !pr x) ++ [l[j]].filter (fun x => !pr x) := by
          rw [List.take_add_one, gj, List.filter_append]; rfl
        generalize l[j] = x at gj gj' hts
        have mj : (l'.map linr)[j]? = some (linr x) := by rw [List.getElem?_map, gj']; rfl
        have hbx : boxN 3 (.agg (linr x)) = some (.fptr (linr x)) := boxN_agg 3 _ rfl
        simp only [ixm28, hjj, and_self, if_true, Nat.zero_add, Int.toNat_natCast, bs, ldobL hg mj, hbx, linr_ld, hf, dUn_not]
        cases hp : pr x
        · have hlt2 : i < l'.length := by omega
          have mi : (l'.map linr)[i]? = some (linr l'[i]) := by rw [List.getElem?_map, List.getElem?_eq_getElem hlt2]; rfl
          simp only [Bool.not_false, dIf_bool, if_true, hii, and_self, bs, Option.bind_assoc]
          refine wst78 hg mi (by rfl) (by simp [-bind_some, linr]) (by rfl) fun g2 p2 s2 => ?_
          rw [show spl (linr l'[i]) 0 (cells1 (.agg (linr x))) = linr x from id rfl, set_map_row] at p2
          simp only [bs, dBin_add, hw3, hw2, unblk_nrm, toEnd_nrm, nth_zero]
          refine .some (.inl ⟨rfl, n - 1, by omega, i + 1, j + 1, _, _, _, l'.set i x, by omega, rfl, by simpa using hl', by omega, p2, sm.trans s2, ?_, fun q hq => ?_⟩)
          · rw [hts, ← htk, List.take_add_one, List.getElem?_set_self (by omega), List.take_set_of_le (Nat.le_refl _)]
            simp [-bind_some, hp]
          · rw [List.getElem?_set_ne (by omega)]; exact hdr q (by omega)
        · simp only [Bool.not_true, dIf_bool, Bool.false_eq_true, if_false, bs, dBin_add, hw2, unblk_nrm, toEnd_nrm, nth_zero]
          refine .some (.inl ⟨rfl, n - 1, by omega, i, j + 1, _, _, _, l', by omega, rfl, hl', by omega, hg, sm, ?_, fun q hq => hdr q (by omega)⟩)
          rw [hts, ← htk]
          simp [-bind_some, hp]
      · intro h0
        have h0 : ¬ j < l.length := by have : ¬ (j : Int) < (l.length : Int) := by simpa using h0
                                       omega
        refine .some (.inr ⟨by simp, rfl, i, _, _, _, _, l', rfl, hl', by omega, hg, sm, ?_⟩)
        rw [htk, List.take_of_length_le (by omega)]
    · rintro ⟨x, ds, g⟩ ⟨rfl, i, a, b, c, d, l', rfl, hl', hil, hg, sm, htk⟩
      have hK : (l.filter fun x => !pr x).length = i := by rw [← htk]; simp [-bind_some]; omega
      have hs1 : dSliceAt tab ty28 true false false [.msl 3 ob 0 l.length, .int .i64 i] = some (.msl 3 ob i (l.length - i)) :=
        (msl_lo (T := tab) (t := ty28) (e := ty78) (z := 3) (i := ti28) (j := ti78) (id rfl) (id rfl) (id rfl) (id rfl) (by decide) (r := 0) (n := l.length) (m := i) hil (Nat.zero_le _)).trans (by rw [Nat.zero_add])
      have hs2 : dSliceAt tab ty28 false true false [.msl 3 ob 0 l.length, .int .i64 i] = some (.msl 3 ob 0 i) := msl_hi (T := tab) (t := ty28) (e := ty78) (z := 3) (i := ti28) (j := ti78) (id rfl) (id rfl) (id rfl) (id rfl) (by decide) (Nat.le_of_lt hil)
      obtain ⟨z, hz⟩ := clear_msl (T := tab) (t := ty28) (i := ti28) (j := ti78) (h := g) (n := l.length - i) (r := i) (id rfl) (id rfl) (id rfl) (by decide) hg (by omega)
      have hz : dClear tab g ty28 (.msl 3 ob i (l.length - i)) = some (.tup [], g.set ob (Ob.row ty78 3 ((l'.map linr).take i ++ z))) := hz
      have holt : ob < g.length := (List.getElem?_eq_some_iff.1 hg).1
      simp only [unblk_self, toEnd_nrm, nth_zero, nth_succ, bs, hs1, hz, hs2, mkRes_one]
      refine .some ⟨by rw [hK], sm.trans ⟨by simp, fun q hq => List.getElem?_set_ne (Ne.symm hq)⟩, z, ?_⟩
      rw [List.getElem?_set_self holt, ← List.map_take, htk]
structure FltOf (i : It) (m : Int) (j : It) : Prop where
  r : j.r = i.r
  a0 : j.e.a0 = i.e.a0
  a1 : j.e.a1 = i.e.a1
  a3 : j.e.a3 = i.e.a3
  a5 : j.e.a5 = i.e.a5
  a6 : j.e.a6 = i.e.a6
  s7 : j.e.s7 = i.e.s7
  s8 : j.e.s8 = i.e.s8
  ls : j.e.ls = i.e.ls.filter (fun l => decide (m ≤ l.off))
  fs : j.e.fs = i.e.fs
  a2 : ∃ x, (i.e.ls.filter fun l => decide (m ≤ l.off)).head? = some x ∧ j.e.a2 = x.off
def AftOf (i : It) (m : Int) (ok : Bool) (j : It) : Prop :=
  (m ≤ i.e.a2 ∧ ok = true ∧ j = i) ∨ (¬ m ≤ i.e.a2 ∧ (i.e.a3 ≤ m ∨ ∀ l ∈ i.e.ls, l.off < m) ∧ ok = false ∧ j = it0) ∨ (¬ m ≤ i.e.a2 ∧ m < i.e.a3 ∧ (∃ l ∈ i.e.ls, m ≤ l.off) ∧ ok = true ∧ FltOf i m j)
theorem AftOf.same {i j j' : It} {m : Int} {ok ok' : Bool} (h : AftOf i m ok j) (h' : AftOf i m ok' j') : ok = ok' ∧ sameI j j' = true := by
  rcases h with ⟨h1, rfl, rfl⟩ | ⟨h1, h2, rfl, rfl⟩ | ⟨h1, h2, ⟨l, hl, hm⟩, rfl, hf⟩
  · rcases h' with ⟨h1', rfl, rfl⟩ | ⟨h1', _⟩ | ⟨h1', _⟩
    · exact ⟨rfl, sameI_refl _⟩
    · exact absurd h1 h1'
    · exact absurd h1 h1'
  · rcases h' with ⟨h1', _⟩ | ⟨_, _, rfl, rfl⟩ | ⟨_, k2, ⟨l, hl, hm⟩, _⟩
    · exact absurd h1' h1
    · exact ⟨rfl, sameI_refl _⟩
    · rcases h2 with h2 | h2
      · omega
      · have := h2 l hl; omega
  · rcases h' with ⟨h1', _⟩ | ⟨_, k2, rfl, rfl⟩ | ⟨_, _, _, rfl, hf'⟩
    · exact absurd h1' h1
    · rcases k2 with k2 | k2
      · omega
      · have := k2 l hl; omega
    · obtain ⟨x, hx, hx2⟩ := hf.a2
      obtain ⟨y, hy, hy2⟩ := hf'.a2
      rw [hx] at hy
      injection hy with hy
      subst hy
      exact ⟨rfl, by simp [-bind_some, sameI, sameE, hf.r, hf'.r, hf.a0, hf'.a0, hf.a1, hf'.a1, hx2, hy2, hf.a3, hf'.a3, hf.a5, hf'.a5, hf.a6, hf'.a6, hf.s7, hf'.s7, hf.s8, hf'.s8, hf.ls, hf'.ls, hf.fs, hf'.fs]⟩
theorem s1044 (l : Lin) (n : Int) (h : Hp) : R fn1044 [.agg (linr l), .fptr [.int .i64 n]] h = some (.bool (decide (n ≤ l.off)), h) := by
  rw [e1044]
  simp [-bind_some, F1044, linr]
theorem s1046 (l : Lin) (n : Int) (h : Hp) : R fn1046 [.agg (linr l), .fptr [.int .i64 n]] h = some (.bool (decide (l.off < n)), h) := by
  rw [e1046]
  simp [-bind_some, F1046, linr]
theorem ldIt11 {g : Hp} {q T z : Nat} {i : It} (hq : g[q]? = some (Ob.row T z [itr i])) : dLoad tab g ty74 (.ptr q 0 0) = some (.agg (itr i)) := ldob11 hq rfl
theorem end_it {h g : Hp} {j : It} {b : Bool} (hl : h.length ≤ g.length) (hb : ∀ q, q < h.length → g[q]? = h[q]?) : scope h g (.tup [.agg (itr j), .bool b]) = some (.tup [.agg (itr j), .bool b], h) := by
  refine scope_eq ?_ (.tup _ fun d hd => ?_) hl hb
  · simp only [frz_tup, frz_agg, List.map_cons, List.map_nil, frz_bool]
    rw [map_id_of fun d hd => itr_frz h.length g 1 j d hd]
  · simp at hd
    rcases hd with rfl | rfl
    · exact itr_ok _ _
    · constructor
theorem s1040 (i : It) (m : Int) (h : Hp) (hl : i.e.ls.length ≤ 1000000) : ∃ j ok, R fn1040 [.agg (itr i), .int .i64 m] h = some (.tup [.agg (itr j), .bool ok], h) ∧ AftOf i m ok j := by
  suffices Wp (R fn1040 [.agg (itr i), .int .i64 m] h) (fun p => p.2 = h ∧ ∃ j ok, p.1 = .tup [.agg (itr j), .bool ok] ∧ AftOf i m ok j) by
    obtain ⟨⟨x, h'⟩, h1, rfl, j, ok, rfl, h2⟩ := this
    exact ⟨j, ok, h1, h2⟩
  rw [e1040]
  simp only [F1040, bs, Option.bind_assoc, pBoxF_int]
  rw [wBox_agg ty74 11 h (itr i) rfl (by omega)]
  generalize hg0 : dNew h ty74 11 [itr i] = g0
  have hgl : g0.length = h.length + 1 := by rw [← hg0]; exact new_len _ _ _ _
  have hb : ∀ q, q < h.length → g0[q]? = h[q]? := fun q hq => by rw [← hg0]; exact new_old _ _ _ _ hq
  have p8 : g0[h.length]? = some (Ob.row ty74 11 [itr i]) := by rw [← hg0]; exact new_get _ _ _ _
  clear hg0
  simp only [bs, hgl]
  generalize hg1 : dNew g0 ty74 11 [[.str [], .int .i64 0, .int .i64 0, .int .i64 0, .int .i64 0, .nils, .int .i64 0, .int .i64 0, .str [], .str [], .nils]] = g1
  have hgl1 : g1.length = h.length + 2 := by rw [← hg1, new_len]; omega
  have hb1 : ∀ q, q < h.length + 1 → g1[q]? = g0[q]? := fun q hq => by rw [← hg1]; exact new_old _ _ _ _ (by omega)
  have p9 : g1[h.length + 1]? = some (Ob.row ty74 11 [[.str [], .int .i64 0, .int .i64 0, .int .i64 0, .int .i64 0, .nils, .int .i64 0, .int .i64 0, .str [], .str [], .nils]]) := by
    rw [← hg1, ← hgl]; exact new_get _ _ _ _
  replace p8 := (hb1 h.length (by omega)).trans p8
  replace hb : ∀ q, q < h.length → g1[q]? = h[q]? := fun q hq => (hb1 q (by omega)).trans (hb q hq)
  clear hg1 hb1 hgl
  have r8 : g1.row h.length 0 = some [.str i.r, .int .i64 i.e.a0, .int .i64 i.e.a1, .int .i64 i.e.a2, .int .i64 i.e.a3, i.e.ld, .int .i64 i.e.a5, .int .i64 i.e.a6, .str i.e.s7, .str i.e.s8, i.e.fd] := row_of p8
  simp only [ld3, fap74_1, fap31_2, fap31_3, fap31_4, bs, ldp3, ldp28, r8, List.drop_succ_cons, List.drop_zero, List.head?_cons, Nat.zero_add, dBin_leq]
  refine Wp.dif ?_ ?_
  · intro hm
    have hm : m ≤ i.e.a2 := by simpa using hm
    simp only [ldIt11 p8, bs]
    refine wst74 p9 (by rfl) (by rfl) (by simp) (by rfl) fun g2 q9 s2 => ?_
    replace q9 : g2[h.length + 1]? = some (Ob.row ty74 11 [itr i]) := q9
    simp only [ldIt11 q9, bs, mkRes_two]
    rw [end_it (by have := s2.1; omega) (fun q hq => (s2.2 q (by omega)).trans (hb q hq))]
    exact .some ⟨rfl, i, true, rfl, .inl ⟨hm, rfl, rfl⟩⟩
  · intro hm
    have hm : ¬ m ≤ i.e.a2 := by simpa using hm
    rw [s1006 i.e.ls i.e.ld (.fn (.func fn1044) [] [.fptr [.int .i64 m]]) (fun l => decide (m ≤ l.off)) g1 i.e.hld i.e.hll (fun x => by rw [callV_some]; exact s1044 x m g1)]
    have hfil := idx_fil (fun l : Lin => decide (m ≤ l.off)) i.e.ls 0
    generalize idx (fun l : Lin => decide (m ≤ l.off)) 0 i.e.ls = kk at hfil
    simp only [bs, ldp3, r8, List.drop_succ_cons, List.drop_zero, List.head?_cons, dBin_geq, dBin_lss]
    have fail : (i.e.a3 ≤ m ∨ ∀ l ∈ i.e.ls, l.off < m) → Wp ((dBuild tab ty74 [] []).bind fun t27 => (dStore tab g1 ty74 (.ptr (h.length + 1) 0 0) t27).bind fun h' => (dLoad tab h' ty74 (.ptr (h.length + 1) 0 0)).bind fun d => scope h h' (mkRes [d, .bool false])) (fun p : D × Hp => p.2 = h ∧ ∃ j ok, p.1 = .tup [.agg (itr j), .bool ok] ∧ AftOf i m ok j) := fun hc => by
      simp only [bd74_, bs]
      refine wst74 p9 (by rfl) (by rfl) (by simp) (by rfl) fun g2 q9 s2 => ?_
      replace q9 : g2[h.length + 1]? = some (Ob.row ty74 11 [itr it0]) := q9
      simp only [ldIt11 q9, bs, mkRes_two]
      rw [end_it (by have := s2.1; omega) (fun q hq => (s2.2 q (by omega)).trans (hb q hq))]
      exact .some ⟨rfl, it0, false, rfl, .inr (.inl ⟨hm, hc, rfl, rfl⟩)⟩
    by_cases hto : i.e.a3 ≤ m
    · simp only [hto, decide_true, gd_bool, reduceCtorEq, if_false, if_true, Bool.true_eq_false, bs, dPick_bool, dIf_bool]
      exact fail (.inl hto)
    by_cases hk0 : kk < 0
    · simp only [hto, hk0, decide_true, decide_false, gd_bool, if_true, Bool.false_eq_true, if_false, dBin_lss, bs, dPick_bool, dIf_bool]
      refine fail (.inr fun l hl => ?_)
      rcases hfil with ⟨_, h2⟩ | ⟨k, h1, _⟩
      · have := h2 l hl
        simp at this; omega
      · omega
    obtain ⟨k, hk, hkl, hex⟩ : ∃ k, kk = ((0 + k : Nat) : Int) ∧ k < i.e.ls.length ∧ ∃ l ∈ i.e.ls, m ≤ l.off := by
      rcases hfil with ⟨h1, _⟩ | ⟨k, h1, h2, _, y, hy, hy2⟩
      · omega
      · exact ⟨k, h1, h2, y, hy, by simpa using hy2⟩
    simp only [hto, hk0, decide_false, gd_bool, if_true, Bool.false_eq_true, if_false, dBin_lss, bs, dPick_bool, dIf_bool, ldp28, r8, List.drop_succ_cons, List.drop_zero, List.head?_cons]
    obtain ⟨d1, g2, e2, hl2, hb2, hd1⟩ := u1008 i.e.ls i.e.ld g1 i.e.hld hl
    rcases hd1 with ⟨h0, _⟩ | ⟨ob, hob, rfl, ho⟩
    · rw [h0] at hkl; simp at hkl
    obtain ⟨g3, z, e3, s3, p3⟩ := u1045 i.e.ls (.fn (.func fn1046) [] [.fptr [.int .i64 m]]) (fun l => decide (l.off < m)) g2 ob ho hl (fun x g => by rw [callV_some]; exact s1046 x m g)
    have hfe : (i.e.ls.filter fun x => !decide (x.off < m)) = i.e.ls.filter fun x => decide (m ≤ x.off) := by
      congr 1; funext x
      by_cases hx : x.off < m
      · have : ¬ m ≤ x.off := by omega
        simp [-bind_some, hx, this]
      · have : m ≤ x.off := by omega
        simp [-bind_some, hx, this]
    simp only [hfe] at e3 p3
    generalize hks : i.e.ls.filter (fun x => decide (m ≤ x.off)) = ks at e3 p3
    have hkne : ∃ x r, ks = x :: r := by
      obtain ⟨l, hl1, hl2⟩ := hex
      have : l ∈ ks := by rw [← hks]; exact List.mem_filter.2 ⟨hl1, by simpa using hl2⟩
      cases ks with
      | nil => simp at this
      | cons x r => exact ⟨x, r, rfl⟩
    have hkle : ks.length ≤ i.e.ls.length := by rw [← hks]; exact List.length_filter_le _ _
    simp only [e2, e3, bs]
    replace p8 := ((s3.2 h.length (by omega)).trans (hb2 h.length (by omega))).trans p8
    replace p9 := ((s3.2 (h.length + 1) (by omega)).trans (hb2 (h.length + 1) (by omega))).trans p9
    replace hb : ∀ q, q < h.length → g3[q]? = h[q]? := fun q hq => ((s3.2 q (by omega)).trans (hb2 q (by omega))).trans (hb q hq)
    have hgl3 : h.length + 2 ≤ g3.length := by have := s3.1; omega
    clear r8 e2 e3 s3 hb2 ho hl2
    refine wst28 p8 (by rfl) (by rfl) (by simp [-bind_some, itr, evr]) (by rfl) fun g4 q8 t4 => ?_
    replace q8 : g4[h.length]? = some (Ob.row ty74 11 [[.str i.r, .int .i64 i.e.a0, .int .i64 i.e.a1, .int .i64 i.e.a2, .int .i64 i.e.a3, .msl 3 ob 0 ks.length, .int .i64 i.e.a5, .int .i64 i.e.a6, .str i.e.s7, .str i.e.s8, i.e.fd]]) := q8
    replace p9 := (t4.2 (h.length + 1) (by omega)).trans p9
    replace p3 := (t4.2 ob (by omega)).trans p3
    have r8 : g4.row h.length 0 = some [.str i.r, .int .i64 i.e.a0, .int .i64 i.e.a1, .int .i64 i.e.a2, .int .i64 i.e.a3, .msl 3 ob 0 ks.length, .int .i64 i.e.a5, .int .i64 i.e.a6, .str i.e.s7, .str i.e.s8, i.e.fd] := row_of q8
    obtain ⟨x, r, hxr⟩ := hkne
    have hix : (0 : Int) ≤ 0 ∧ (0 : Int) < (ks.length : Int) := by rw [hxr]; simp [-bind_some]
    have hrx : g4.row ob 0 = some [.int .i64 x.off, .int .i64 x.len, .str x.txt] := by rw [row_of p3, hxr]; rfl
    simp only [bs, ldp28, r8, List.drop_succ_cons, List.drop_zero, List.head?_cons, ixm28, hix, and_self, if_true, Nat.zero_add, Int.toNat_zero, fap78_0, ldp3, hrx]
    refine wst3 q8 (by rfl) (by rfl) (by simp) (by rfl) fun g5 q8' t5 => ?_
    replace q8 : g5[h.length]? = some (Ob.row ty74 11 [[.str i.r, .int .i64 i.e.a0, .int .i64 i.e.a1, .int .i64 x.off, .int .i64 i.e.a3, .msl 3 ob 0 ks.length, .int .i64 i.e.a5, .int .i64 i.e.a6, .str i.e.s7, .str i.e.s8, i.e.fd]]) := q8'
    replace t4 := t4.trans t5
    replace p9 := (t5.2 (h.length + 1) (by omega)).trans p9
    replace p3 := (t5.2 ob (by omega)).trans p3
    clear q8' t5 r8 hrx
    simp only [ldob11 q8 rfl, bs]
    refine wst74 p9 (by rfl) (by rfl) (by simp) (by rfl) fun g6 q9 t6 => ?_
    replace q9 : g6[h.length + 1]? = some (Ob.row ty74 11 [[.str i.r, .int .i64 i.e.a0, .int .i64 i.e.a1, .int .i64 x.off, .int .i64 i.e.a3, .msl 3 ob 0 ks.length, .int .i64 i.e.a5, .int .i64 i.e.a6, .str i.e.s7, .str i.e.s8, i.e.fd]]) := q9
    replace p3 := (t6.2 ob (by omega)).trans p3
    simp only [ldob11 q9 rfl, bs, mkRes_two]
    have hsl : SlOf 3 linr ks (.sl 3 false (ks.map linr)) := .mk _ _ _ _
    have hfz : frz h.length g6 2 (.msl 3 ob 0 ks.length) = .sl 3 false (ks.map linr) := by
      rw [frz_msl (by omega) p3, List.drop_zero, List.take_left' (by simp), map_id_of fun row hrow => by
        obtain ⟨a, _, rfl⟩ := List.mem_map.1 hrow
        exact map_id_of fun d hd => linr_frz _ _ _ a d hd]
    have hfy : frz h.length g6 2 i.e.fd = i.e.fd := slof_frz i.e.hfd (fun a _ => fld_frz _ g6 _ a)
    generalize hj : (⟨i.r, ⟨i.e.a0, i.e.a1, x.off, i.e.a3, ks, .sl 3 false (ks.map linr), i.e.a5, i.e.a6, i.e.s7, i.e.s8, i.e.fs, i.e.fd, i.e.hfd, i.e.hl, hsl, by omega⟩⟩ : It) = j
    have hflt : FltOf i m j := by subst hj; exact ⟨rfl, rfl, rfl, rfl, rfl, rfl, rfl, rfl, hks.symm, rfl, x, by rw [hks, hxr]; rfl, rfl⟩
    rw [scope_eq (d' := .tup [.agg (itr j), .bool true]) (by subst hj; simp [-bind_some, itr, evr, hfy, hfz]) (.tup _ fun d hd => by
      simp at hd
      rcases hd with rfl | rfl
      · exact itr_ok _ _
      · constructor) (by have := t4.1; have := t6.1; omega) (fun q hq => ((t6.2 q (by omega)).trans (t4.2 q (by omega))).trans (hb q hq))]
    exact .some ⟨rfl, j, true, rfl, .inr (.inr ⟨hm, by omega, hex, rfl, hflt⟩)⟩
theorem cmpB_neg : ∀ (a b : Str), Lib.compareBytes a b = - Lib.compareBytes b a
  | [], [] => rfl
  | [], _ :: _ => rfl
  | _ :: _, [] => rfl
  | x :: a, y :: b => by
    have ih := cmpB_neg a b
    simp only [Lib.compareBytes]
    by_cases h1 : x < y
    · have h2 : ¬ y < x := by
        have := UInt8.lt_iff_toNat_lt.1 h1
        intro hh
        have := UInt8.lt_iff_toNat_lt.1 hh
        omega
      simp [-bind_some, h1, h2]
    · by_cases h2 : y < x
      · simp [-bind_some, h1, h2]
      · simp [-bind_some, h1, h2, ih]
theorem asc_srt {l : List (Str × Str)} (h : Asc l) : srt l = l := by
  have hd : ∀ j, dn cF 0 j l = l := fun j => by
    cases j with
    | zero => rfl
    | succ j =>
      unfold dn
      split
      · rename_i x y hx hy
        split
        · rename_i hc
          exfalso
          have h1 := (h j y x hy hx).1
          have h2 := (cmpB_lt y.1 x.1).2 h1
          have h3 := cmpB_neg x.1 y.1
          have h4 := hc.2
          unfold cF at h4
          omega
        · rfl
      · rfl
  have hi : ∀ n i, isr cF 0 i n l = l := fun n => by
    induction n with
    | zero => intro i; rfl
    | succ n ih => intro i; unfold isr; rw [hd]; exact ih _
  exact hi _ _
theorem asc_adj : ∀ {l : List (Str × Str)}, Asc l → adjB l = false
  | [], _ => rfl
  | [_], _ => rfl
  | x :: y :: r, h => by
    unfold adjB
    have h0 := (h 0 x y rfl rfl).2
    have h1 : (y.1 == x.1) = false := by simp; exact fun hh => h0 hh.symm
    rw [h1, Bool.false_or]
    exact asc_adj fun i p q hp hq => h (i + 1) p q hp hq
theorem asc_sort {l : List (Str × Str)} (h : Asc l) (hl : l.length ≤ 32) (hn : ∀ p ∈ l, fnameOK p.1 = true) : sortF l = (0, l) := by
  have h32 : ¬ 32 < l.length := by omega
  have ha : l.all (fun p => fnameOK p.1) = true := List.all_eq_true.2 hn
  simp only [sortF, h32, if_false, ha, if_true, asc_srt h, asc_adj h, Bool.false_eq_true]
theorem lnE_mch (to_ m : Int) (hm : 200 ≤ m) (ht : to_ ≤ 60000) : ∀ (ls : List Lin) (a : Int), 0 ≤ a → mch a ls to_ → lnE to_ m a ls = 0
  | [], a, _, _ => rfl
  | l :: r, a, ha, h => by
    obtain ⟨h1, h2, h3, h4, h5⟩ := h
    have hle := mch_le r _ _ h5
    have w1 : IntKind.wrap .i64 (to_ - a) = to_ - a := wrap_i64 (by omega) (by omega)
    have w2 : IntKind.wrap .i64 (a + l.len) = a + l.len := wrap_i64 (by omega) (by omega)
    unfold lnE
    rw [if_pos, if_neg (by omega), w2]
    · exact lnE_mch to_ m hm ht r _ (by omega) h5
    · rw [w1]
      refine ⟨h1, by omega, by omega, fun hh => ?_⟩
      obtain ⟨hr, hlt⟩ := hh
      subst hr
      have h5 : a + l.len = to_ := h5
      omega
theorem lines_mch {e : Ev} (m : Int) (hm : 200 ≤ m) (h0 : 0 ≤ e.a2) (ht : e.a3 ≤ 60000) (h1 : 1 ≤ e.ls.length) (h40 : e.ls.length ≤ 40) (hc : mch e.a2 e.ls e.a3) : linesE e m = 0 := by
  have g0 : ¬ e.ls.length = 0 := by omega
  have g1 : ¬ 40 < e.ls.length := by omega
  simp only [linesE, g0, g1, if_false]
  exact lnE_mch _ _ hm ht _ _ h0 hc
theorem mf_asc {l : List (Str × Str)} (h : MF l) : Asc l := by
  have hp : lt98_17.Pairwise fun a b => Op.bytesLess a b = true ∧ a ≠ b := by decide
  have := hp.sublist h.1
  rw [List.pairwise_iff_getElem] at this
  intro i p q h1 h2
  obtain ⟨g1, h1⟩ := List.getElem?_eq_some_iff.1 h1
  obtain ⟨g2, h2⟩ := List.getElem?_eq_some_iff.1 h2
  have := this i (i + 1) (by simpa using g1) (by simpa using g2) (by omega)
  simpa [-bind_some, h1, h2] using this
theorem mf_sort {l : List (Str × Str)} (h : MF l) : sortF l = (0, l) := by
  have hl : l.length ≤ 4 := by
    have := h.1.length_le
    simpa using this
  refine asc_sort (mf_asc h) (by omega) fun p hp => ?_
  have hm : p.1 ∈ lt98_17 := h.1.subset (List.mem_map.2 ⟨p, hp, rfl⟩)
  exact (show ∀ s ∈ lt98_17, fnameOK s = true by decide) _ hm
theorem mf_len {l : List (Str × Str)} (h : MF l) : l.length ≤ 4 := by
  have := h.1.length_le
  simpa using this
structure EvK (e : Ev) : Prop where
  h0 : 0 ≤ e.a0
  h2 : e.a0 ≤ 2
  f0 : 0 ≤ e.a1
  f2 : e.a1 ≤ 2
  a0 : 0 ≤ e.a2
  b9 : e.a3 ≤ 1000
  ch : mch e.a2 e.ls e.a3
  l1 : 1 ≤ e.ls.length
  l3 : e.ls.length ≤ 3
  t0 : 0 ≤ e.a5
  t9 : e.a5 ≤ 255000
  wt : e.a6 ∈ lt82_14
  tr : e.s7 ∈ lt98_15
  st : e.s8 ∈ lt98_16
  fs : MF e.fs
theorem EvM.k {e : Ev} (h : EvM e) : EvK e := ⟨h.h0, h.h2, h.f0, h.f2, h.a0, by have := mch_le _ _ _ h.ch; have := h.a9; have := h.l3; omega, h.ch, h.l1, h.l3, h.t0, h.t9, h.wt, h.tr, h.st, h.fs⟩
theorem EvK.good {e : Ev} (h : EvK e) : evE e = 0 := by
  have hle := mch_le _ _ _ h.ch
  have h1 := h.h0; have h2 := h.h2; have h3 := h.f0; have h4 := h.f2; have h5 := h.a0; have h6 := h.b9; have h7 := h.l1; have h8 := h.t0; have h9 := h.t9; have h10 := h.l3
  have hp : plB e = true := by
    simp [-bind_some, plB]
    omega
  have ht : (decide (0 ≤ e.a5) && decide (e.a5 ≤ 253402300799999)) = true := by simp; omega
  have hw := (show ∀ s ∈ lt82_14, ¬ s < 1 ∧ Int.tmod 5040 s = 0 by decide) _ h.wt
  have hl := lines_mch 2000 (by omega) h.a0 (by omega) h.l1 (by omega) h.ch
  have htr := (show ∀ s ∈ lt98_15, ¬ 32 < s.length by decide) _ h.tr
  have hst := (show ∀ s ∈ lt98_16, ¬ 32 < s.length by decide) _ h.st
  have hs := mf_sort h.fs
  have hv : (e.fs.any fun p => decide (2000 < p.2.length)) = false := by
    rw [List.any_eq_false]
    intro p hp
    have := (show ∀ s ∈ lt98_18, ¬ 2000 < s.length by decide) _ (h.fs.2 p hp)
    simpa using this
  simp [-bind_some, evE, hp, ht, hw.1, hw.2, hl, htr, hst, hs, hv]
theorem m10 (zs : List Int) (d : D) (n : Int) (h : Hp) (hd : Given .u8 zs d) (hn : 0 ≤ n) (hn2 : n ≤ 400) (hz : ∀ z ∈ zs, 0 ≤ z ∧ z < 256) (hzl : zs.length ≤ 9223372036854775807) : ∃ h', R fn10 [d, .int .i64 n] h = some (.ptr h.length 0 0, h') ∧ CM h' h.length ∧ h'.length = h.length + 1 ∧ ∀ q, q < h.length → h'[q]? = h[q]? := by
  rw [e10]
  simp only [F10, bs, Option.bind_assoc, given_len hd, dBin_gtr]
  have fin : ∀ d' zs', Given .u8 zs' d' → zs'.length ≤ 400 → (∀ z ∈ zs', 0 ≤ z ∧ z < 256) → ∃ h', ((dBuild tab ty80 [0] [d']).bind fun t13 => (wBox ty80 2 h t13).bind fun p14 => some (mkRes [p14.1], p14.2)) = some (.ptr h.length 0 0, h') ∧ CM h' h.length ∧ h'.length = h.length + 1 ∧ ∀ q, q < h.length → h'[q]? = h[q]? := fun d' zs' hg hl hz' => by
    rw [bd80_0 d' (given_one hg)]
    simp only [bs]
    rw [wBox_agg ty80 2 h [d', .int .i64 0] rfl (by omega)]
    exact ⟨_, rfl, ⟨d', zs', 0, new_get _ _ _ _, hg, hl, by omega, hz'⟩, new_len _ _ _ _, fun q hq => new_old _ _ _ _ hq⟩
  by_cases hgt : n < (zs.length : Int)
  · obtain ⟨d', hs, hg⟩ := given_hi (T := tab) (t := ty22) (i := ti22) (j := ti5) (id rfl) (id rfl) (id rfl) (id rfl) hd (k2 := .i64) hn (Int.le_of_lt hgt)
    simp only [hgt, decide_true, dIf_bool, if_true, hs, bs, toEnd_nrm, nth_zero]
    exact fin d' _ hg (by simp; omega) fun z hz' => hz z (List.mem_of_mem_take hz')
  · simp only [hgt, decide_false, dIf_bool, Bool.false_eq_true, if_false, bs, toEnd_nrm, nth_zero]
    exact fin d zs hd (by omega) hz
def aev : Ev := ⟨0, 0, 0, 9, [⟨0, 5, []⟩, ⟨5, 4, [120]⟩], .sl 3 true [[.int .i64 0, .int .i64 5, .str []], [.int .i64 5, .int .i64 4, .str [120]]], 0, 1, [], [], [], .nils, SlOf.nils _ _, by simp, SlOf.mk 3 linr [⟨0, 5, []⟩, ⟨5, 4, [120]⟩] true, by simp⟩
theorem aev_e : evE aev = 0 := by decide
theorem s1036 (h : Hp) : R fn1036 [] h = some (.bool true, h) := by
  rw [e1036]
  obtain ⟨j, ok, h1, h2⟩ := s1040 ⟨[], aev⟩ 3 h (by decide)
  have h3 := s1043 aev h (by decide)
  rw [aev_e] at h3
  have hc : ok = true ∧ FltOf ⟨[], aev⟩ 3 j := by
    rcases h2 with ⟨hh, _⟩ | ⟨_, hh, _⟩ | ⟨_, _, _, hh, hf⟩
    · exact absurd hh (by decide)
    · rcases hh with hh | hh
      · exact absurd hh (by decide)
      · exact absurd (hh ⟨5, 4, [120]⟩ (by decide)) (by decide)
    · exact ⟨hh, hf⟩
  obtain ⟨rfl, hf⟩ := hc
  have hls : j.e.ls = [⟨5, 4, [120]⟩] := hf.ls.trans (by decide)
  have ha2 : j.e.a2 = 5 := by
    obtain ⟨x, hx, hx2⟩ := hf.a2
    rw [hx2]
    have : (some x : Option Lin) = some ⟨5, 4, [120]⟩ := hx.symm.trans (by decide)
    injection this with this
    rw [this]
  have hbx : boxN 10 (.agg (evr aev)) = some (.fptr (evr aev)) := boxN_agg 10 _ rfl
  have hbx2 : boxN 11 (.agg (itr j)) = some (.fptr (itr j)) := boxN_agg 11 _ rfl
  have q2 : dFieldAddr tab ty31 2 (.fptr (evr j.e)) = some (.fptr [.int .i64 j.e.a2, .int .i64 j.e.a3, j.e.ld, .int .i64 j.e.a5, .int .i64 j.e.a6, .str j.e.s7, .str j.e.s8, j.e.fd]) := id rfl
  have q4 : dFieldAddr tab ty31 4 (.fptr (evr j.e)) = some (.fptr [j.e.ld, .int .i64 j.e.a5, .int .i64 j.e.a6, .str j.e.s7, .str j.e.s8, j.e.fd]) := id rfl
  have hb1 : dBuild tab ty31 [3, 6, 4] [.int .i64 9, .int .i64 1, .sl 3 true [[.int .i64 0, .int .i64 5, .str []], [.int .i64 5, .int .i64 4, .str [120]]]] = some (.agg (evr aev)) := bd31_3_6_4 9 1 _ (by rfl)
  have hb2 : dBuild tab ty74 [1] [.agg (evr aev)] = some (.agg (itr ⟨[], aev⟩)) := id rfl
  simp only [F1036, bs, bd78_1, bd78_0_1_2, bs28_2, hb1, hbx, evL, hb2, h1, dExtract_tup, List.getElem?_cons_zero, List.getElem?_cons_succ, hbx2, h3, dBin_eql, decide_true, gd_bool, if_true, dPick_bool, itF1, q2, q4, ld3, ld28, ha2, lens28 j.e.hld, hls, List.length_singleton, mkRes_one]
  rfl
theorem mch_blank : ∀ (ls : List Lin) (a b : Int), mch a ls b → mch a (ls.map blank) b
  | [], a, b, h => h
  | x :: r, a, b, h => ⟨h.1, h.2.1, h.2.2.1, by simp [-bind_some, blank], mch_blank r _ b h.2.2.2.2⟩
structure SkK (i : It) : Prop where
  r : i.r ∈ lt98_35
  h0 : 0 ≤ i.e.a0
  h2 : i.e.a0 ≤ 2
  f0 : 0 ≤ i.e.a1
  f2 : i.e.a1 ≤ 2
  a0 : 0 ≤ i.e.a2
  b9 : i.e.a3 ≤ 1000
  ch : mch i.e.a2 i.e.ls i.e.a3
  l1 : 1 ≤ i.e.ls.length
  l3 : i.e.ls.length ≤ 3
  tx : ∀ l ∈ i.e.ls, l.txt = []
  t0 : i.e.a5 = 0
  w0 : i.e.a6 = 0
  tr : i.e.s7 = []
  st : i.e.s8 = []
  fs : i.e.fs = []
def ItK (i : It) : Prop := (i.r = [] ∧ EvK i.e) ∨ SkK i
theorem ItK.l3 {i : It} (h : ItK i) : i.e.ls.length ≤ 3 := by
  rcases h with ⟨_, h⟩ | h
  · exact h.l3
  · exact h.l3
theorem ItK.fs {i : It} (h : ItK i) : i.e.fs.length ≤ 4 := by
  rcases h with ⟨_, h⟩ | h
  · exact mf_len h.fs
  · rw [h.fs]; simp [-bind_some]
theorem ItK.ch {i : It} (h : ItK i) : mch i.e.a2 i.e.ls i.e.a3 ∧ 0 ≤ i.e.a2 ∧ i.e.a3 ≤ 1000 ∧ 1 ≤ i.e.ls.length := by
  rcases h with ⟨_, h⟩ | h
  · exact ⟨h.ch, h.a0, h.b9, h.l1⟩
  · exact ⟨h.ch, h.a0, h.b9, h.l1⟩
theorem ItK.good {i : It} (h : ItK i) : itE i = 0 := by
  rcases h with ⟨hr, h⟩ | h
  · simp [-bind_some, itE, hr, h.good]
  · have hr := (show ∀ s ∈ lt98_35, s ≠ [] ∧ ¬ 32 < s.length by decide) _ h.r
    have hle := mch_le _ _ _ h.ch
    have h1 := h.h0; have h2 := h.h2; have h3 := h.f0; have h4 := h.f2; have h5 := h.a0; have h6 := h.b9; have h7 := h.l1; have h10 := h.l3
    have hp : plB i.e = true := by
      simp [-bind_some, plB]
      omega
    have hl := lines_mch 60000 (by omega) h.a0 (by omega) h.l1 (by omega) h.ch
    have ha : (i.e.ls.any fun p => !(p.txt == [])) = false := by
      rw [List.any_eq_false]
      intro p hp
      simp [-bind_some, h.tx p hp]
    simp [-bind_some, itE, hr.1, hr.2, hp, hl, h.t0, h.w0, h.tr, h.st, h.fs]
    exact h.tx
theorem mch_filter (m : Int) : ∀ (ls : List Lin) (a b : Int), mch a ls b → (ls.filter fun l => decide (m ≤ l.off)) = [] ∨ ∃ x r, (ls.filter fun l => decide (m ≤ l.off)) = x :: r ∧ mch x.off (x :: r) b ∧ m ≤ x.off ∧ a ≤ x.off ∧ (∀ l ∈ ls, m ≤ l.off → x.off ≤ l.off)
  | [], a, b, h => .inl rfl
  | l :: r, a, b, h => by
    obtain ⟨h1, h2, h3, h4, h5⟩ := h
    have hlb : ∀ y ∈ r, a ≤ y.off := by
      have key : ∀ (ls : List Lin) (a b : Int), mch a ls b → ∀ y ∈ ls, a ≤ y.off := by
        intro ls
        induction ls with
        | nil => intro a b _ y hy; simp at hy
        | cons z r ih =>
          intro a b h y hy
          rcases List.mem_cons.1 hy with rfl | hy
          · exact Int.le_of_eq h.1.symm
          · have := ih _ b h.2.2.2.2 y hy
            have := h.2.1
            omega
      intro y hy
      have := key r _ b h5 y hy
      omega
    by_cases hc : m ≤ l.off
    · right
      have hall : (r.filter fun l => decide (m ≤ l.off)) = r := by
        rw [List.filter_eq_self]
        intro y hy
        have := hlb y hy
        simp [-bind_some]; omega
      refine ⟨l, r, ?_, ⟨rfl, h2, h3, h4, by rw [h1]; exact h5⟩, hc, by omega, fun y hy _ => ?_⟩
      · rw [List.filter_cons, if_pos (by simpa using hc), hall]
      · rcases List.mem_cons.1 hy with rfl | hy
        · omega
        · have := hlb y hy; omega
    · have hf : ((l :: r).filter fun l => decide (m ≤ l.off)) = r.filter fun l => decide (m ≤ l.off) := by
        rw [List.filter_cons, if_neg (by simpa using hc)]
      rw [hf]
      rcases mch_filter m r _ b h5 with h | ⟨x, r', e1, e2, e3, e4, e5⟩
      · exact .inl h
      · refine .inr ⟨x, r', e1, e2, e3, by omega, fun y hy hm => ?_⟩
        rcases List.mem_cons.1 hy with rfl | hy
        · exact absurd hm hc
        · exact e5 y hy hm
theorem FltOf.k {i j : It} {m : Int} (hi : ItK i) (h : FltOf i m j) : ItK j := by
  obtain ⟨hch, hc0, hc9, hc1⟩ := hi.ch
  obtain ⟨x, hx, hx2⟩ := h.a2
  have hfl := List.length_filter_le (fun l : Lin => decide (m ≤ l.off)) i.e.ls
  have hl3 := hi.l3
  rcases mch_filter m _ _ _ hch with hf | ⟨y, r, hf, hm, _, hay, _⟩
  · rw [hf] at hx; cases hx
  rw [hf] at hx hfl
  injection hx with hx
  subst hx
  have hls : j.e.ls = y :: r := h.ls.trans hf
  have hmem : ∀ l ∈ j.e.ls, l ∈ i.e.ls := fun l hl => by rw [h.ls] at hl; exact (List.mem_filter.1 hl).1
  have hchj : mch j.e.a2 j.e.ls j.e.a3 := by rw [hx2, hls, h.a3]; exact hm
  have l1 : 1 ≤ j.e.ls.length := by rw [hls]; simp [-bind_some]
  have l3 : j.e.ls.length ≤ 3 := by rw [hls]; omega
  rcases hi with ⟨hr, hi⟩ | hi
  · exact .inl ⟨h.r.trans hr, ⟨by rw [h.a0]; exact hi.h0, by rw [h.a0]; exact hi.h2, by rw [h.a1]; exact hi.f0, by rw [h.a1]; exact hi.f2, by rw [hx2]; omega, by rw [h.a3]; exact hc9, hchj, l1, l3, by rw [h.a5]; exact hi.t0, by rw [h.a5]; exact hi.t9, by rw [h.a6]; exact hi.wt, by rw [h.s7]; exact hi.tr, by rw [h.s8]; exact hi.st, by rw [h.fs]; exact hi.fs⟩⟩
  · exact .inr ⟨by rw [h.r]; exact hi.r, by rw [h.a0]; exact hi.h0, by rw [h.a0]; exact hi.h2, by rw [h.a1]; exact hi.f0, by rw [h.a1]; exact hi.f2, by rw [hx2]; omega, by rw [h.a3]; exact hc9, hchj, l1, l3, fun l hl => hi.tx l (hmem l hl), by rw [h.a5]; exact hi.t0, by rw [h.a6]; exact hi.w0, by rw [h.s7]; exact hi.tr, by rw [h.s8]; exact hi.st, by rw [h.fs]; exact hi.fs⟩
theorem AftOf.later {i a d : It} {p q : Int} {was : Bool} (hpq : p ≤ q) (ha : AftOf i p false a) (hd : AftOf i q was d) : was = false := by
  rcases ha with ⟨_, hh, _⟩ | ⟨h1, h2, _, _⟩ | ⟨_, _, _, hh, _⟩
  · cases hh
  · rcases hd with ⟨hh, _⟩ | ⟨_, _, rfl, _⟩ | ⟨_, k3, ⟨l, hl, hql⟩, _⟩
    · omega
    · rfl
    · rcases h2 with h2 | h2
      · omega
      · have := h2 l hl; omega
  · cases hh
theorem m1038 {h : Hp} {o : Nat} (hc : CM h o) : ∃ i h', R fn1038 [.ptr o 0 0] h = some (.agg (itr i), h') ∧ CM h' o ∧ Same o h h' ∧ ItK i := by
  suffices Wp (R fn1038 [.ptr o 0 0] h) (fun p => ∃ i, p.1 = .agg (itr i) ∧ CM p.2 o ∧ Same o h p.2 ∧ ItK i) by
    obtain ⟨⟨x, h'⟩, h1, i, rfl, h2⟩ := this
    exact ⟨i, h', h1, h2⟩
  have ho := hc.lt
  rw [e1038]
  simp only [F1038, bs, Option.bind_assoc]
  generalize hg0 : dNew h ty74 11 [[.str [], .int .i64 0, .int .i64 0, .int .i64 0, .int .i64 0, .nils, .int .i64 0, .int .i64 0, .str [], .str [], .nils]] = g0
  have p0 : g0[h.length]? = some (Ob.row ty74 11 [[.str [], .int .i64 0, .int .i64 0, .int .i64 0, .int .i64 0, .nils, .int .i64 0, .int .i64 0, .str [], .str [], .nils]]) := by rw [← hg0]; exact new_get _ _ _ _
  have S0 : Sm h o g0 := (Sm.refl hc).app (by rw [← hg0, new_len]; omega) fun q hq => by rw [← hg0]; exact new_old _ _ _ _ hq
  have hl0 : g0.length = h.length + 1 := by rw [← hg0]; exact new_len _ _ _ _
  clear hg0
  obtain ⟨e, g1, e1, c1, s1, he⟩ := m12 S0.cd
  refine Wp.step e1 ?_; clear e1
  have hbx : boxN 10 (.agg (evr e)) = some (.fptr (evr e)) := boxN_agg 10 _ rfl
  simp only [bs, hbx]
  obtain ⟨v, g2, e2, c2, s2, v0, v1⟩ := m39 c1 4 (by omega) (by omega)
  refine Wp.step e2 ?_; clear e2
  have S2 := (S0.next c1 s1).next c2 s2
  have hl2 : g2.length = h.length + 1 := by have := s1.1; have := s2.1; omega
  replace p0 := (s2.2 h.length (by omega)).trans ((s1.2 h.length (by omega)).trans p0)
  clear S0 s1 s2 c1 hl0
  have hb2 : dBuild tab ty74 [1] [.agg (evr e)] = some (.agg (itr ⟨[], e⟩)) := id rfl
  have fin : ∀ (g : Hp) (j : It), Sm h o g → g[h.length]? = some (Ob.row ty74 11 [itr j]) → ItK j → Wp ((dLoad tab g ty74 (.ptr h.length 0 0)).bind fun d => scope h g (mkRes [d])) (fun p : D × Hp => ∃ i, p.1 = .agg (itr i) ∧ CM p.2 o ∧ Same o h p.2 ∧ ItK i) := fun g j S q hj => by
    simp only [ldIt11 q, bs, mkRes_one]
    obtain ⟨h', hsc, hcd, hsm2⟩ := S.scope (d := .agg (itr j)) (d' := .agg (itr j)) (by
      rw [frz_agg, map_id_of fun d hd => itr_frz h.length g 2 j d hd]) (itr_ok _ _)
    rw [hsc]
    exact .some ⟨j, rfl, hcd, hsm2, hj⟩
  simp only [dBin_lss, bs]
  refine Wp.dif ?_ ?_
  · intro _
    simp only [evL, bs, hb2]
    refine wst74 p0 (by rfl) (by rfl) (by simp) (by rfl) fun g3 p3 sg => ?_
    replace p3 : g3[h.length]? = some (Ob.row ty74 11 [itr ⟨[], e⟩]) := p3
    exact fin g3 _ (S2.app (Nat.le_of_eq sg.1.symm) fun q hq => sg.2 q (by omega)) p3 (.inl ⟨rfl, he.k⟩)
  · intro _
    have q0 : dFieldAddr tab ty31 0 (.fptr (evr e)) = some (.fptr (evr e)) := id rfl
    have q1 : dFieldAddr tab ty31 1 (.fptr (evr e)) = some (.fptr [.int .i64 e.a1, .int .i64 e.a2, .int .i64 e.a3, e.ld, .int .i64 e.a5, .int .i64 e.a6, .str e.s7, .str e.s8, e.fd]) := id rfl
    have q2 : dFieldAddr tab ty31 2 (.fptr (evr e)) = some (.fptr [.int .i64 e.a2, .int .i64 e.a3, e.ld, .int .i64 e.a5, .int .i64 e.a6, .str e.s7, .str e.s8, e.fd]) := id rfl
    have q3 : dFieldAddr tab ty31 3 (.fptr (evr e)) = some (.fptr [.int .i64 e.a3, e.ld, .int .i64 e.a5, .int .i64 e.a6, .str e.s7, .str e.s8, e.fd]) := id rfl
    have q4 : dFieldAddr tab ty31 4 (.fptr (evr e)) = some (.fptr [e.ld, .int .i64 e.a5, .int .i64 e.a6, .str e.s7, .str e.s8, e.fd]) := id rfl
    have l0 : ∀ g, dLoad tab g ty3 (.fptr (evr e)) = some (.int .i64 e.a0) := fun g => id rfl
    simp only [q0, q1, q2, q3, q4, l0, ld3, bs, bd31_0_1_2_3]
    generalize hg3 : dNew g2 ty31 10 [[.int .i64 0, .int .i64 0, .int .i64 0, .int .i64 0, .nils, .int .i64 0, .int .i64 0, .str [], .str [], .nils]] = g3
    have p3 : g3[g2.length]? = some (Ob.row ty31 10 [[.int .i64 0, .int .i64 0, .int .i64 0, .int .i64 0, .nils, .int .i64 0, .int .i64 0, .str [], .str [], .nils]]) := by rw [← hg3]; exact new_get _ _ _ _
    have hb3 : ∀ q, q < h.length + 1 → g3[q]? = g2[q]? := fun q hq => by rw [← hg3]; exact new_old _ _ _ _ (by omega)
    have hl3 : g3.length = h.length + 2 := by rw [← hg3, new_len]; omega
    clear hg3
    rw [hl2] at p3 ⊢
    have S3 := S2.app (by omega) fun q hq => hb3 q (by omega)
    replace p0 := (hb3 h.length (by omega)).trans p0
    refine wst31 p3 (by rfl) (by rfl) (by simp) (by rfl) fun g4 p4 sg => ?_
    replace p4 : g4[h.length + 1]? = some (Ob.row ty31 10 [[.int .i64 e.a0, .int .i64 e.a1, .int .i64 e.a2, .int .i64 e.a3, .nils, .int .i64 0, .int .i64 0, .str [], .str [], .nils]]) := p4
    have S4 := S3.app (Nat.le_of_eq sg.1.symm) fun q hq => sg.2 q (by omega)
    replace p0 := (sg.2 h.length (by omega)).trans p0
    have hl4 : g4.length = h.length + 2 := sg.1.trans hl3
    clear p3 hb3 S3 S2 sg hl3 c2 hl2
    simp only [bs, ld28, lens28 e.hld]
    refine Wp.loop (fun k ds g => ∃ a b x, ∃ n : Nat, ds = [a, .int .i64 n, b] ∧ k + n = e.ls.length ∧ Sm h o g ∧ h.length + 2 ≤ g.length ∧ g[h.length]? = some (Ob.row ty74 11 [[.str [], .int .i64 0, .int .i64 0, .int .i64 0, .int .i64 0, .nils, .int .i64 0, .int .i64 0, .str [], .str [], .nils]])
        ∧ g[h.length + 1]? = some (Ob.row ty31 10 [[.int .i64 e.a0, .int .i64 e.a1, .int .i64 e.a2, .int .i64 e.a3, x, .int .i64 0, .int .i64 0, .str [], .str [], .nils]]) ∧ Own g (h.length + 2) ty78 3 (((e.ls.take n).map blank).map linr) x)
      (fun r => r.1 = .ext 0 ∧ ∃ a b c x, r.2.1 = [a, b, c] ∧ Sm h o r.2.2 ∧ h.length + 2 ≤ r.2.2.length ∧ r.2.2[h.length]? = some (Ob.row ty74 11 [[.str [], .int .i64 0, .int .i64 0, .int .i64 0, .int .i64 0, .nils, .int .i64 0, .int .i64 0, .str [], .str [], .nils]])
        ∧ r.2.2[h.length + 1]? = some (Ob.row ty31 10 [[.int .i64 e.a0, .int .i64 e.a1, .int .i64 e.a2, .int .i64 e.a3, x, .int .i64 0, .int .i64 0, .str [], .str [], .nils]]) ∧ Own r.2.2 (h.length + 2) ty78 3 ((e.ls.map blank).map linr) x) e.ls.length
      ⟨_, _, .nils, 0, rfl, rfl, S4, by omega, p0, p4, Own.nils _ _ _ _⟩ ?_ ?_
    · clear p0 p4 S4 hl4
      rintro k ds g ⟨a, b, x, n, rfl, hk, S, hgl, p0, p1, ow⟩
      have hel := he.l3
      simp only [F1038_L0, nth_zero, nth_succ, bs, Option.bind_assoc, dBin_lss]
      refine Wp.dif ?_ ?_
      · intro h0
        have h0 : n < e.ls.length := by have : (n : Int) < e.ls.length := by simpa using h0
                                        omega
        have hg : e.ls[n]? = some e.ls[n] := List.getElem?_eq_getElem h0
        have hw : IntKind.wrap .i64 ((n : Int) + 1) = ((n + 1 : Nat) : Int) := by rw [wrap_i64 (by omega) (by omega)]; omega
        have hts : (e.ls.take (n + 1)).map blank = (e.ls.take n).map blank ++ [blank e.ls[n]] := by
          rw [List.take_add_one, hg, List.map_append]; rfl
        generalize e.ls[n] = l at hg hts
        have r1 : g.row (h.length + 1) 0 = some [.int .i64 e.a0, .int .i64 e.a1, .int .i64 e.a2, .int .i64 e.a3, x, .int .i64 0, .int .i64 0, .str [], .str [], .nils] := row_of p1
        simp only [fap31_4, ldp28, r1, Nat.zero_add, List.drop_succ_cons, List.drop_zero, List.head?_cons, q4, ld28, bs, ixs28 e.hld, Int.natCast_nonneg, if_true, Int.toNat_natCast, hg, Option.map_some]
        simp only [linr, fa78_0, fa78_1, ld3, bs, bd78_0_1, bs28_1]
        refine wap28 hgl ow (rowsOf_sl _ _ _ _) (by simp; omega) fun x' g' ow' len bel _ _ => ?_
        have oc := one_cells (own_one ow')
        simp only [bs]
        refine wst28 ((bel (h.length + 1) (by omega)).trans p1) (by rfl) (by rw [oc.1]; rfl) (by simp) oc.2 fun g2 p2 t2 => ?_
        rw [oc.1] at p2
        replace p2 : g2[h.length + 1]? = some (Ob.row ty31 10 [[.int .i64 e.a0, .int .i64 e.a1, .int .i64 e.a2, .int .i64 e.a3, x', .int .i64 0, .int .i64 0, .str [], .str [], .nils]]) := p2
        simp only [bs, dBin_add, hw]
        refine .some (.inl ⟨rfl, k - 1, by omega, _, _, x', n + 1, rfl, by omega, (S.app len fun q hq => bel q (by omega)).app (Nat.le_of_eq t2.1.symm) fun q hq => t2.2 q (by omega), by show h.length + 2 ≤ g2.length; have := t2.1; omega, (t2.2 h.length (by omega)).trans ((bel h.length (by omega)).trans p0), p2, ?_⟩)
        rw [hts, List.map_append]
        exact ow'.keep fun q hq _ => t2.2 q (by omega)
      · intro h0
        have h0 : e.ls.length ≤ n := by have : ¬ (n : Int) < e.ls.length := by simpa using h0
                                        omega
        rw [List.take_of_length_le h0] at ow
        exact .some (.inr ⟨by simp, rfl, _, _, _, x, rfl, S, hgl, p0, p1, ow⟩)
    · clear p0 p4 S4 hl4 g4
      rintro ⟨ex, ds, g⟩ ⟨rfl, a, b, c, x, rfl, S, hgl, p0, p1, ow⟩
      simp only at S hgl p0 p1 ow
      simp only [unblk_self, toEnd_nrm, bs, lt98_35_ok]
      refine pick_wp S.cd lt98_35 8 (by decide) (by decide) (by decide) fun u g2 c2 s2 hu _ => ?_
      have S2 := S.next c2 s2
      have p12 := (s2.2 (h.length + 1) (by omega)).trans p1
      replace p0 := (s2.2 h.length (by omega)).trans p0
      have ow2 := ow.same s2 (by omega)
      simp only [bs, ldob p12 rfl, ldob p1 rfl, bd74_0_1, chk_true]
      refine wst74 p0 (by rfl) (by rfl) (by simp) (by rfl) fun g3 p3 sg => ?_
      replace p3 : g3[h.length]? = some (Ob.row ty74 11 [[.str u, .int .i64 e.a0, .int .i64 e.a1, .int .i64 e.a2, .int .i64 e.a3, x, .int .i64 0, .int .i64 0, .str [], .str [], .nils]]) := p3
      have S3 := S2.app (Nat.le_of_eq sg.1.symm) fun q hq => sg.2 q (by omega)
      have ow3 := ow2.keep (h' := g3) fun q hq _ => sg.2 q (by omega)
      have hsl := own_sl (n0 := h.length) (n := 2) ow3 (by omega) (fun a _ => linr_frz _ g3 _ a)
      have hel := he.l3
      simp only [ldob11 p3 rfl, bs, mkRes_one]
      generalize hj : (⟨u, ⟨e.a0, e.a1, e.a2, e.a3, e.ls.map blank, frz h.length g3 3 x, 0, 0, [], [], [], .nils, SlOf.nils _ _, by simp, hsl, by simp; omega⟩⟩ : It) = j
      have hK : SkK j := by
        subst hj
        exact ⟨hu, he.h0, he.h2, he.f0, he.f2, he.a0, he.k.b9, mch_blank _ _ _ he.ch, by simpa using he.l1, by simpa using hel, fun l hl => by
          simp at hl
          obtain ⟨l0, _, rfl⟩ := hl
          rfl, rfl, rfl, rfl, rfl, rfl⟩
      obtain ⟨h', hsc, hcd, hsm2⟩ := S3.scope (d := .agg [.str u, .int .i64 e.a0, .int .i64 e.a1, .int .i64 e.a2, .int .i64 e.a3, x, .int .i64 0, .int .i64 0, .str [], .str [], .nils]) (d' := .agg (itr j)) (by subst hj; simp [-bind_some, itr, evr]) (itr_ok _ _)
      rw [hsc]
      exact .some ⟨j, rfl, hcd, hsm2, .inr hK⟩
structure Tal where
  h : Int
  r : Str
  n : Int
end Go.Proofs.YtlpedofpnbggbaaDoor
