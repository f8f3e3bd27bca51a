/- Laws, on plain data, about functions that the statement reaches. -/
import Derived.Test.YteglojieneaojaaL1
set_option linter.unusedSimpArgs false
set_option linter.unusedVariables false
set_option linter.unnecessarySimpa false
set_option maxRecDepth 100000
namespace Go.Proofs.Yteglojieneaojaa
open Go.Eng Go.Pi
theorem d71 {h : Hp} {o : Nat} (hc : CD h o) (host most : Int) (hm0 : 0 ≤ most) (hm1 : most ≤ 100) : ∃ x h', R fn71 [.ptr o 0 0, .int .i64 host, .int .i64 most] h = some (x, h') ∧ CD h' o ∧ Same o h h' ∧ ∃ ps : List (List It × D), SlOf 1 (fun p => [p.2]) ps x ∧ ps.length ≤ 3 ∧ FilesOK host most (SlOf 11 itr) ps := by
  obtain ⟨x, h', a, b, c, ps, d, e, _, f⟩ := d71n hc host most hm0 hm1
  exact ⟨x, h', a, b, c, ps, d, e, f⟩
/-- What an event that is drawn looks like. -/
def EvOK (e : Ev) : Prop := ItOK e.a0 e.a1 e.a2 ⟨[], e⟩ ∧ 1 ≤ e.a0 ∧ e.a0 ≤ 2 ∧ 5 ≤ e.a1 ∧ e.a1 ≤ 7
def EvsOK (l : List Ev) : Prop := (∀ e ∈ l, EvOK e) ∧ l.Pairwise fun a b => a.a5 ≤ b.a5
theorem lessE_le {a b : Ev} (h : lessE a b = true) : a.a5 ≤ b.a5 := by
  unfold lessE at h
  split at h
  · omega
  · have : a.a5 < b.a5 := by simpa [-Option.bind_some] using h
    omega
theorem not_lessE_le {a b : Ev} (h : ¬ lessE a b = true) : b.a5 ≤ a.a5 := by
  unfold lessE at h
  split at h
  · omega
  · have : ¬ a.a5 < b.a5 := by simpa [-Option.bind_some] using h
    omega
theorem insPos_before (l : List Ev) (e : Ev) : ∀ k, k ≤ l.length → ∀ j x, insPos l e k = j + 1 → l[j]? = some x → x.a5 ≤ e.a5
  | 0, _, j, x, h, _ => by simp [-Option.bind_some, insPos] at h
  | k + 1, hk, j, x, h, hx => by
    have hg : l[k]? = some l[k] := List.getElem?_eq_getElem (by omega)
    simp only [insPos, hg] at h
    split at h
    · exact insPos_before l e k (by omega) j x h hx
    · rename_i hs
      have : k = j := by omega
      subst this
      rw [hg] at hx
      injection hx with hx
      subst hx
      exact not_lessE_le hs
theorem insPos_after (l : List Ev) (e : Ev) : ∀ k, k ≤ l.length → ∀ j x, insPos l e k ≤ j → j < k → l[j]? = some x → e.a5 ≤ x.a5
  | 0, _, j, x, h, hj, _ => by omega
  | k + 1, hk, j, x, h, hj, hx => by
    have hg : l[k]? = some l[k] := List.getElem?_eq_getElem (by omega)
    simp only [insPos, hg] at h
    split at h
    · rename_i hs
      rcases Nat.lt_or_ge j k with hjk | hjk
      · exact insPos_after l e k (by omega) j x h hjk hx
      · have : k = j := by omega
        subst this
        rw [hg] at hx
        injection hx with hx
        subst hx
        exact lessE_le hs
    · omega
theorem ins_len (l : List Ev) (e : Ev) : (ins l e).length = l.length + 1 := by
  have := insPos_le l e l.length
  simp [-Option.bind_some, ins]; omega
theorem ins_ok {l : List Ev} {e : Ev} (hl : EvsOK l) (he : EvOK e) : EvsOK (ins l e) := by
  have hp := insPos_le l e l.length
  refine ⟨fun x hx => ?_, ?_⟩
  · simp only [ins, List.append_assoc, List.mem_append, List.mem_singleton] at hx
    rcases hx with hx | rfl | hx
    · exact hl.1 x (List.mem_of_mem_take hx)
    · exact he
    · exact hl.1 x (List.mem_of_mem_drop hx)
  · have hbef : ∀ x ∈ l.take (insPos l e l.length), x.a5 ≤ e.a5 := by
      intro x hx
      obtain ⟨i, hi⟩ := List.getElem?_of_mem hx
      rw [List.getElem?_take] at hi
      split at hi
      · rename_i hlt
        obtain ⟨j, hj⟩ : ∃ j, insPos l e l.length = j + 1 := ⟨insPos l e l.length - 1, by omega⟩
        have hgj : l[j]? = some l[j] := List.getElem?_eq_getElem (by omega)
        have h1 := insPos_before l e l.length (Nat.le_refl _) j _ hj hgj
        rcases Nat.lt_or_ge i j with hij | hij
        · have h2 := List.pairwise_iff_getElem.1 hl.2 i j (by omega) (by omega) hij
          have : l[i] = x := by
            have := List.getElem?_eq_getElem (l := l) (i := i) (by omega)
            rw [this] at hi
            injection hi
          rw [this] at h2
          exact Int.le_trans h2 h1
        · have : i = j := by omega
          subst this
          rw [hgj] at hi
          injection hi with hi
          rw [← hi]; exact h1
      · cases hi
    have haft : ∀ x ∈ l.drop (insPos l e l.length), e.a5 ≤ x.a5 := by
      intro x hx
      obtain ⟨i, hi⟩ := List.getElem?_of_mem hx
      rw [List.getElem?_drop] at hi
      have hlt := (List.getElem?_eq_some_iff.1 hi).1
      exact insPos_after l e l.length (Nat.le_refl _) _ x (by omega) hlt hi
    unfold ins
    rw [List.append_assoc, List.pairwise_append]
    refine ⟨hl.2.sublist (List.take_sublist _ _), ?_, ?_⟩
    · rw [List.singleton_append, List.pairwise_cons]
      exact ⟨haft, hl.2.sublist (List.drop_sublist _ _)⟩
    · intro a ha b hb
      rcases List.mem_append.1 hb with hb | hb
      · simp [-Option.bind_some] at hb; subst hb; exact hbef a ha
      · exact Int.le_trans (hbef a ha) (haft b hb)
theorem l48b (ps : List (List It × D)) (d : D) (hd : SlOf 1 (fun p => [p.2]) ps d) (i : Nat) (ds1 : List D) (hds : nth 1 ds1 = .int .i64 i) (its : List It) (y : D) (hi : ps[i]? = some (its, y)) (hy : SlOf 11 itr its y) (hln : its.length ≤ 100)
    (hok : ∀ it ∈ its, it.r = [] → EvOK it.e) (l : List Ev) (x a b : D) (hx : SlOf 10 evr l x) (hl : EvsOK l) (hll : l.length ≤ 100000) (g : Hp) {β : Type} {K : Out → Option β} {Q : β → Prop}
    (cont : ∀ l' x' c a b, SlOf 10 evr l' x' → EvsOK l' → l'.length ≤ l.length + its.length → Wp (K (.ext 4, [x', c, a, b], g)) Q) :
    Wp ((loopW (F48_L2 d ds1) [x, .int .i64 0, a, b] g).bind K) Q := by
  refine Wp.loop (fun k ds g' => g' = g ∧ ∃ x a b, ∃ j : Nat, ∃ l' : List Ev, ds = [x, .int .i64 j, a, b] ∧ SlOf 10 evr l' x ∧ EvsOK l' ∧ l'.length ≤ l.length + j ∧ k + j = its.length)
    (fun r => r.1 = .ext 4 ∧ r.2.2 = g ∧ ∃ x c a b, ∃ l' : List Ev, r.2.1 = [x, c, a, b] ∧ SlOf 10 evr l' x ∧ EvsOK l' ∧ l'.length ≤ l.length + its.length)
    its.length ⟨rfl, x, a, b, 0, l, rfl, hx, hl, by omega, by omega⟩ ?_ ?_
  · rintro k ds g' ⟨rfl, x, a, b, j, l', rfl, hx, hl', hlen, hk⟩
    have hix : dIndexAddr tab ty111 d (.int .i64 i) = some (.fptr [y]) := by
      rw [ixs111 hd]; simp [-Option.bind_some, hi]
    simp only [F48_L2, nth_zero, nth_succ, bs, hds, hix, ld113, lens113 hy, dBin_lss, Option.bind_assoc]
    refine Wp.dif ?_ ?_
    · intro h0
      have hj : j < its.length := by have : (j : Int) < its.length := by simpa [-Option.bind_some] using h0
                                     omega
      have hg : its[j]? = some its[j] := List.getElem?_eq_getElem hj
      generalize hit : its[j] = it at hg
      have hiy : dIndexAddr tab ty113 y (.int .i64 j) = some (.fptr (itr it)) := by
        rw [ixs113 hy]; simp [-Option.bind_some, hg]
      have hw : IntKind.wrap .i64 ((j : Int) + 1) = ((j + 1 : Nat) : Int) := by
        rw [wrap_i64 (by omega) (by omega)]; omega
      simp only [hiy, bs, itF0, itL0, itF1, evL, dBin_seql]
      refine Wp.join (P := fun r => ∃ x, ∃ l2 : List Ev, r = (.nrm, [x], g') ∧ SlOf 10 evr l2 x ∧ EvsOK l2 ∧ l2.length ≤ l.length + (j + 1)) ?_ ?_ ?_
      · intro hr
        have hr : it.r = [] := by simpa [-Option.bind_some] using hr
        obtain ⟨d', e1, hd'⟩ := s72 l' x it.e g' hx (by omega)
        simp only [e1, bs]
        exact .some ⟨d', _, rfl, hd', ins_ok hl' (hok it (List.mem_of_getElem? hg) hr), by rw [ins_len]; omega⟩
      · intro _
        exact .some ⟨x, l', rfl, hx, hl', by omega⟩
      · rintro _ ⟨x, l2, rfl, hx, hl2, hlen2⟩
        simp only [unblk_nrm, toEnd_nrm, nth_zero, bs, dBin_add, hw]
        exact .some (.inl ⟨rfl, k - 1, by omega, rfl, x, _, _, j + 1, l2, rfl, hx, hl2, hlen2, by omega⟩)
    · intro h0
      exact .some (.inr ⟨by simp [-Option.bind_some], rfl, rfl, x, _, _, _, l', rfl, hx, hl', by omega⟩)
  · rintro ⟨ex, ds, g'⟩ ⟨rfl, rfl, x, c, a, b, l', rfl, hx, hl', hlen⟩
    exact cont l' x c a b hx hl' hlen
theorem l48a (ps : List (List It × D)) (d : D) (hd : SlOf 1 (fun p => [p.2]) ps d) (hln : ps.length ≤ 3) (hok : ∀ p ∈ ps, SlOf 11 itr p.1 p.2 ∧ p.1.length ≤ 100 ∧ ∀ it ∈ p.1, it.r = [] → EvOK it.e)
    (l : List Ev) (x a b c e : D) (hx : SlOf 10 evr l x) (hl : EvsOK l) (hll : l.length ≤ 10000) (g : Hp) {β : Type} {K : Out → Option β} {Q : β → Prop}
    (cont : ∀ l' x' f a b c e, SlOf 10 evr l' x' → EvsOK l' → l'.length ≤ l.length + 300 → Wp (K (.ext 2, [x', f, a, b, c, e], g)) Q) :
    Wp ((loopW (F48_L1 d) [x, .int .i64 0, a, b, c, e] g).bind K) Q := by
  refine Wp.loop (fun k ds g' => g' = g ∧ ∃ x a b c e, ∃ j : Nat, ∃ l' : List Ev, ds = [x, .int .i64 j, a, b, c, e] ∧ SlOf 10 evr l' x ∧ EvsOK l' ∧ l'.length ≤ l.length + 100 * j ∧ k + j = ps.length)
    (fun r => r.1 = .ext 2 ∧ r.2.2 = g ∧ ∃ x f a b c e, ∃ l' : List Ev, r.2.1 = [x, f, a, b, c, e] ∧ SlOf 10 evr l' x ∧ EvsOK l' ∧ l'.length ≤ l.length + 300)
    ps.length ⟨rfl, x, a, b, c, e, 0, l, rfl, hx, hl, by omega, by omega⟩ ?_ ?_
  · rintro k ds g' ⟨rfl, x, a, b, c, e, j, l', rfl, hx, hl', hlen, hk⟩
    simp only [F48_L1, nth_zero, nth_succ, bs, lens111 hd, dBin_lss, Option.bind_assoc]
    refine Wp.dif ?_ ?_
    · intro h0
      have hj : j < ps.length := by have : (j : Int) < ps.length := by simpa [-Option.bind_some] using h0
                                    omega
      have hg : ps[j]? = some ps[j] := List.getElem?_eq_getElem hj
      generalize hit : ps[j] = p at hg
      obtain ⟨hy, hpl, hpe⟩ := hok p (List.mem_of_getElem? hg)
      have hw : IntKind.wrap .i64 ((j : Int) + 1) = ((j + 1 : Nat) : Int) := by
        rw [wrap_i64 (by omega) (by omega)]; omega
      refine l48b ps d hd j _ rfl p.1 p.2 (by rw [hg]) hy hpl hpe l' x _ _ hx hl' (by omega) g' ?_
      intro l2 x2 c2 a2 b2 hx2 hl2 hlen2
      simp only [unblk_self, unblk_nrm, toEnd_nrm, nth_zero, nth_succ, bs, dBin_add, hw]
      exact .some (.inl ⟨rfl, k - 1, by omega, rfl, x2, _, _, _, _, j + 1, l2, rfl, hx2, hl2, by omega, by omega⟩)
    · intro h0
      exact .some (.inr ⟨by simp [-Option.bind_some], rfl, rfl, x, _, _, _, _, _, l', rfl, hx, hl', by omega⟩)
  · rintro ⟨ex, ds, g'⟩ ⟨rfl, rfl, x, f, a, b, c, e, l', rfl, hx, hl', hlen⟩
    exact cont l' x f a b c e hx hl' hlen
theorem d48 {h : Hp} {o : Nat} (hc : CD h o) (most : Int) (hm0 : 0 ≤ most) (hm1 : most ≤ 100) : ∃ x h', R fn48 [.ptr o 0 0, .int .i64 most] h = some (x, h') ∧ CD h' o ∧ Same o h h' ∧ ∃ l : List Ev, SlOf 10 evr l x ∧ EvsOK l ∧ l.length ≤ 600 := by
  suffices Wp (R fn48 [.ptr o 0 0, .int .i64 most] h) (fun p => CD p.2 o ∧ Same o h p.2 ∧ ∃ l : List Ev, SlOf 10 evr l p.1 ∧ EvsOK l ∧ l.length ≤ 600) by
    obtain ⟨⟨x, h'⟩, h1, h2⟩ := this
    exact ⟨x, h', h1, h2⟩
  rw [e48]
  simp only [F48, bs, Option.bind_assoc]
  refine Wp.loop (fun k ds g => ∃ x a b c d e f' g', ∃ j : Nat, ∃ l : List Ev, ds = [x, .int .i64 j, a, b, c, d, e, f', g'] ∧ CD g o ∧ Same o h g ∧ SlOf 10 evr l x ∧ EvsOK l ∧ l.length + 300 ≤ 300 * j ∧ k + j = 3 ∧ 1 ≤ j)
    (fun r => r.1 = .ext 0 ∧ ∃ x a b c d e f' g' h', ∃ l : List Ev, r.2.1 = [x, a, b, c, d, e, f', g', h'] ∧ CD r.2.2 o ∧ Same o h r.2.2 ∧ SlOf 10 evr l x ∧ EvsOK l ∧ l.length ≤ 600)
    2 ⟨.nils, .any, .any, .any, .any, .any, .any, .any, 1, [], rfl, hc, .refl _ _, SlOf.nils _ _, ⟨by simp [-Option.bind_some], by simp [-Option.bind_some]⟩, by simp [-Option.bind_some], rfl, by omega⟩ ?_ ?_
  · rintro k ds g ⟨x, a, b, c, d, e, f', g', j, l, rfl, hc, hs, hx, hl, hlen, hk, hj⟩
    simp only [F48_L0, nth_zero, nth_succ, bs, Option.bind_assoc]
    obtain ⟨v, g1, e1, c1, s1, v0, v1⟩ := next_b hc 2 (by omega) (by omega)
    refine Wp.step e1 ?_
    simp only [dBin_add, wrap_i64 (n := 1 + v) (by omega) (by omega), dBin_leq, bs]
    refine Wp.dif ?_ ?_
    · intro h0
      have h0 : (j : Int) ≤ 1 + v := by simpa [-Option.bind_some] using h0
      obtain ⟨y, g2, e2, c2, s2, ps, hy, hpl, hps⟩ := d71 c1 j most hm0 hm1
      refine Wp.step e2 ?_
      simp only [bs]
      have hok : ∀ p ∈ ps, SlOf 11 itr p.1 p.2 ∧ p.1.length ≤ 100 ∧ ∀ it ∈ p.1, it.r = [] → EvOK it.e := by
        intro p hp
        obtain ⟨f, hf⟩ := List.getElem?_of_mem hp
        obtain ⟨h1, h2, po, h3⟩ := hps f p hf
        refine ⟨h1, by omega, fun it hit hr => ?_⟩
        obtain ⟨fr, hio⟩ := items_mem _ _ _ _ _ h3 it hit
        have hf3 := (List.getElem?_eq_some_iff.1 hf).1
        have e0 := hio.host
        have e1 := hio.file
        have e2 := hio.fr
        refine ⟨?_, by omega, by omega, by omega, by omega⟩
        have : (⟨[], it.e⟩ : It) = it := by cases it; simp [-Option.bind_some] at hr; simp [-Option.bind_some, hr]
        rw [this, e0, e1, e2]; exact hio
      refine l48a ps y hy hpl hok l x _ _ _ _ hx hl (by omega) g2 ?_
      intro l2 x2 f2 a2 b2 c3 e3 hx2 hl2 hlen2
      have hw : IntKind.wrap .i64 ((j : Int) + 1) = ((j + 1 : Nat) : Int) := by
        rw [wrap_i64 (by omega) (by omega)]; omega
      simp only [unblk_self, unblk_nrm, toEnd_nrm, nth_zero, nth_succ, bs, dBin_add, hw]
      exact .some (.inl ⟨rfl, k - 1, by omega, x2, _, _, _, _, _, _, _, j + 1, l2, rfl, c2, (hs.trans s1).trans s2, hx2, hl2, by omega, by omega, by omega⟩)
    · intro h0
      exact .some (.inr ⟨by simp [-Option.bind_some], rfl, x, _, _, _, _, _, _, _, _, l, rfl, c1, hs.trans s1, hx, hl, by omega⟩)
  · rintro ⟨ex, ds, g⟩ ⟨rfl, x, a, b, c, d, e, f', g', h', l, rfl, hc, hs, hx, hl, hlen⟩
    simp only [unblk_self, toEnd_nrm, nth_zero, bs, mkRes_one]
    exact .some ⟨hc, hs, l, hx, hl, hlen⟩
theorem s99 (n : Int) (h : Hp) : R fn99 [.int .i64 n] h = some (.bool false, h) := by
  rw [e99]
  simp [-Option.bind_some, F99]
def cmpI (a b : Int) : Int := if a < b then -1 else if b < a then 1 else 0
theorem s90 (a b : Int) (h : Hp) : R fn90 [.int .i64 a, .int .i64 b] h = some (.int .i64 (cmpI a b), h) := by
  rw [e90]
  simp [-Option.bind_some, F90, s99, cmpI]
  by_cases h0 : a < b
  · simp [-Option.bind_some, h0]
  · by_cases h1 : b < a <;> simp [-Option.bind_some, h0, h1]
theorem sgtr (t : Nat) (s u : Str) : dBin tab .gtr t (.str s) (.str u) = some (.bool (!(Op.bytesLess s u || s == u))) := id rfl
theorem app_full {T : Tab} {t e : Nat} {i j : TI} (ht : T t = Option.some i) (hi : i.td = .sl e) (he : T e = Option.some j) (hz : 0 < j.sz) {h : Hp} {ys : List (List D)} {y : D} (hy : dRowsOf h j.sz y = Option.some ys) (hl : lim ys.length j.by_ = true) :
    ∃ x' h', dAppend T h t t (.sl j.sz true []) y = Option.some (x', h') ∧ h.length ≤ h'.length ∧ (∀ q, q < h.length → h'[q]? = h[q]?) ∧ ((x' = .sl j.sz true [] ∧ ys = []) ∨ Own h' h.length e j.sz ys x') := by
  have hz' : Nat.blt 0 j.sz = true := Nat.ble_eq_true_of_le hz
  have hs : dSrc h i j y = Option.some ys := by simp [-Option.bind_some, dSrc, hi, hy]
  unfold dAppend
  simp only [ht, hi, he, hz', hs]
  cases ys with
  | nil => exact ⟨_, _, rfl, Nat.le_refl _, fun _ _ => rfl, .inl ⟨rfl, rfl⟩⟩
  | cons y1 yr =>
    simp only [List.length_nil, Nat.zero_add, hl, and_self, if_true, List.nil_append, true_and]
    exact ⟨_, _, rfl, by simp [-Option.bind_some, dNew], fun q hq => by simp only [dNew]; rw [List.getElem?_append_left hq], .inr (.inr ⟨h.length, Nat.le_refl _, rfl, by simp [-Option.bind_some, dNew]⟩)⟩
def inr (n : Int) : List D := [.int .i64 n]
def orI : List Int → Int
  | [] => 0
  | x :: r => if x = 0 then orI r else x
theorem l89 (l : List Int) (d : D) (h : Hp) (hd : SlOf 1 inr l d) (hl : l.length ≤ 9223372036854775807) {β : Type} (K : Out → Option β) (X : Int → Option β)
   (hX : ∀ v r, K (.ret, .int .i64 v :: r, h) = X v) (hY : ∀ r, K (.ext 0, r, h) = X 0) : ∀ (suf pre : List Int), l = pre ++ suf → ∀ n : Int, n = pre.length → ∀ a b e f,
   (loopW (F89_L0 (.int .i64 0) d (.int .i64 l.length)) [a, b, .int .i64 n, e, f] h).bind K = X (orI suf) := by
  intro suf
  induction suf with
  | nil =>
    rintro pre rfl n rfl a b e f
    rw [loopW_eq]
    simp [-Option.bind_some, F89_L0, hY, orI]
  | cons p suf ih =>
    rintro pre rfl n rfl a b e f
    have hw : IntKind.wrap .i64 ((pre.length : Int) + 1) = (pre ++ [p]).length := by
      rw [wrap_i64 (by omega) (by simp [-Option.bind_some] at hl; omega)]; simp [-Option.bind_some]
    have hlt : (pre.length : Int) < (pre ++ p :: suf).length := by simp [-Option.bind_some]; omega
    rw [loopW_eq]
    generalize hL : pre ++ p :: suf = L at *
    have hg : L[pre.length]? = some p := by rw [← hL]; exact get_mid _ _ _
    by_cases hp : p = 0
    · subst hp
      have := ih (pre ++ [0]) (by simp [-Option.bind_some, ← hL]) _ rfl a (.int .i64 0) (.bool true) (.bool false)
      simp only [← hw] at this
      simp [-Option.bind_some, F89_L0, ixs82 hd, hlt, hg, inr, orI]
      exact this
    · simp [-Option.bind_some, F89_L0, ixs82 hd, hlt, hg, inr, hp, hX, orI]
theorem s89 (l : List Int) (d : D) (h : Hp) (hd : SlOf 1 inr l d) (hl : l.length ≤ 9223372036854775807) : R fn89 [d] h = some (.int .i64 (orI l), h) := by
  rw [e89]
  simp only [F89, bs, lens82 hd, Option.bind_assoc]
  rw [l89 l d h hd hl _ (fun v => some (.int .i64 v, h)) (fun v r => by simp [-Option.bind_some]) (fun r => by simp [-Option.bind_some]) l [] rfl 0 rfl]
structure Mrk where
  h : Int
  f : Int
  o : Int
  deriving DecidableEq
def cmpM (a b : Mrk) : Int := orI [cmpI a.h b.h, cmpI a.f b.f]
/-- An element goes down to its place, from place j on, not below a. -/
def dn {α : Type} (c : α → α → Int) (a : Nat) : Nat → List α → List α
  | 0, l => l
  | j + 1, l => match l[j + 1]?, l[j]? with
    | some x, some y => if a < j + 1 ∧ c x y < 0 then dn c a j ((l.set (j + 1) y).set j x) else l
    | _, _ => l
theorem dn_len {α : Type} (c : α → α → Int) (a : Nat) : ∀ (j : Nat) (l : List α), (dn c a j l).length = l.length
  | 0, l => rfl
  | j + 1, l => by
    unfold dn
    split
    · split
      · rw [dn_len c a j]; simp [-Option.bind_some]
      · rfl
    · rfl
/-- Insertion, one element after the other: those at the places i, .., i + n - 1. -/
def isr {α : Type} (c : α → α → Int) (a : Nat) : Nat → Nat → List α → List α
  | _, 0, l => l
  | i, n + 1, l => isr c a (i + 1) n (dn c a i l)
theorem set_map_row {α : Type} (f : α → List D) (l : List α) (i : Nat) (x : α) : (l.map f).set i (f x) = (l.set i x).map f := by rw [List.map_set]
/-- A tally. -/
structure Tal where
  h : Int
  r : Str
  n : Int
def cmpS (a b : Str) : Int := if Op.bytesLess a b = true then -1 else if a = b then 0 else 1
theorem s100 (s : Str) (h : Hp) : R fn100 [.str s] h = some (.bool false, h) := by
  rw [e100]
  simp [-Option.bind_some, F100]
theorem s91 (a b : Str) (h : Hp) : R fn91 [.str a, .str b] h = some (.int .i64 (cmpS a b), h) := by
  rw [e91]
  simp only [F91, bs, s100, dIf_bool, Bool.false_eq_true, if_false, dBin_slss, sgtr, cmpS, mkRes_one]
  cases h0 : Op.bytesLess a b
  · by_cases h1 : a = b <;> simp [-Option.bind_some, h1]
  · simp [-Option.bind_some]
def cmpT (a b : Tal) : Int := orI [cmpI a.h b.h, cmpS a.r b.r]
theorem bL_irr : ∀ a : Str, Op.bytesLess a a = false
  | [] => rfl
  | x :: a => by simp [-Option.bind_some, Op.bytesLess, bL_irr a]
theorem bL_tr : ∀ {a b c : Str}, Op.bytesLess a b = true → Op.bytesLess b c = true → Op.bytesLess a c = true
  | _, [], _, h, _ => by cases ‹Str› <;> simp [-Option.bind_some, Op.bytesLess] at h
  | _, _ :: _, [], _, h => by simp [-Option.bind_some, Op.bytesLess] at h
  | [], _ :: _, _ :: _, _, _ => rfl
  | x :: a, y :: b, z :: c, h, k => by
    simp only [Op.bytesLess, Bool.or_eq_true, decide_eq_true_eq, Bool.and_eq_true, beq_iff_eq] at h k ⊢
    rcases h with h | ⟨rfl, h⟩
    · rcases k with k | ⟨rfl, k⟩
      · exact .inl (UInt8.lt_trans h k)
      · exact .inl h
    · rcases k with k | ⟨rfl, k⟩
      · exact .inl k
      · exact .inr ⟨rfl, bL_tr h k⟩
theorem bL_tot : ∀ {a b : Str}, Op.bytesLess a b = false → a ≠ b → Op.bytesLess b a = true
  | [], [], _, h => absurd rfl h
  | [], _ :: _, h, _ => by simp [-Option.bind_some, Op.bytesLess] at h
  | _ :: _, [], _, _ => rfl
  | x :: a, y :: b, h, k => by
    simp only [Op.bytesLess, Bool.or_eq_false_iff, decide_eq_false_iff_not, Bool.and_eq_false_iff, beq_eq_false_iff_ne] at h
    simp only [Op.bytesLess, Bool.or_eq_true, decide_eq_true_eq, Bool.and_eq_true, beq_iff_eq]
    by_cases hxy : x = y
    · subst hxy
      refine .inr ⟨rfl, bL_tot (h.2.resolve_left fun hh => hh rfl) fun hh => k (by rw [hh])⟩
    · left
      have h1 := mt UInt8.lt_iff_toNat_lt.2 h.1
      have h2 : x.toNat ≠ y.toNat := fun hh => hxy (UInt8.toNat_inj.1 hh)
      exact UInt8.lt_iff_toNat_lt.2 (by omega)
/-- Where a key stands, or would. -/
def kT (key : Tal) : List Tal → Nat
  | [] => 0
  | x :: r => if cmpT x key < 0 then kT key r + 1 else 0
/-- The tallies with some lines more. -/
def addK (l : List Tal) (hst : Int) (rule : Str) (n : Int) (k : Nat) : List Tal := match l[k]? with
  | some x => if cmpT x ⟨hst, rule, 0⟩ = 0 then l.set k ⟨x.h, x.r, IntKind.wrap .i64 (x.n + n)⟩ else l.take k ++ [⟨hst, rule, IntKind.wrap .i64 (0 + n)⟩] ++ l.drop k
  | none => l.take k ++ [⟨hst, rule, IntKind.wrap .i64 (0 + n)⟩] ++ l.drop k
def addT (l : List Tal) (hst : Int) (rule : Str) (n : Int) : List Tal := if n < 1 then l else addK l hst rule n (kT ⟨hst, rule, 0⟩ l)
/-- All of the first occur in the second, in order. -/
def gr : List Ev → List Ev → Bool
  | [], _ => true
  | _ :: _, [] => false
  | x :: a, y :: b => if sameE x y = true then gr a b else gr (x :: a) b
/-- A sum over tallies. -/
def sm (f : Tal → Int) : List Tal → Int
  | [] => 0
  | t :: r => f t + sm f r
/-- Where a mark stands, or would. -/
def kM (key : Mrk) : List Mrk → Nat
  | [] => 0
  | x :: r => if cmpM x key < 0 then kM key r + 1 else 0
def fndM (l : List Mrk) (key : Mrk) : Bool := match l[kM key l]? with
  | some x => decide (cmpM x key = 0)
  | none => false
def markOf (l : List Mrk) (hst fil : Int) : Int := match l[kM ⟨hst, fil, 0⟩ l]? with
  | some x => if cmpM x ⟨hst, fil, 0⟩ = 0 then x.o else 0
  | none => 0
/-- The marks with the mark of a file set. -/
def setM (l : List Mrk) (m : Mrk) : List Mrk := if fndM l m = true then l.set (kM m l) m else l.take (kM m l) ++ [m] ++ l.drop (kM m l)
/-- A batch. -/
structure Bat where
  hs : Int
  nu : Int
  its : List It
  d : D
  hd : SlOf 11 itr its d
def dupR : Str := [42]
/-- What becomes of an item: a gap, a repetition, or it is taken but for some lines. -/
def tkO (mk : Int) (i : It) : Option (Option Nat) :=
  if i.e.a3 ≤ mk then some none
  else if mk < i.e.a2 then none
  else if i.e.a2 < mk then (if idx (fun l : Lin => decide (l.off = mk)) 0 i.e.ls < 1 then none else some (some (idx (fun l : Lin => decide (l.off = mk)) 0 i.e.ls).toNat))
  else some (some 0)
/-- Marks and tallies behind items, or a gap. -/
def apS : List Mrk → List Tal → List It → Option (List Mrk × List Tal)
  | ms, ts, [] => some (ms, ts)
  | ms, ts, i :: r => match tkO (markOf ms i.e.a0 i.e.a1) i with
    | none => none
    | some none => apS ms (addT ts i.e.a0 dupR i.e.ls.length) r
    | some (some k) => apS (setM ms ⟨i.e.a0, i.e.a1, i.e.a3⟩) (addT (addT ts i.e.a0 dupR (k : Nat)) i.e.a0 i.r ((i.e.ls.length - k : Nat) : Int)) r
/-- The intake behind a batch. -/
def ap (s : List Mrk × List Tal) (b : Bat) : List Mrk × List Tal := (apS s.1 s.2 b.its).getD s
/-- What the sorting needs of the comparison: Pre tells what stood before, S what may stand before. -/
structure SOrd {α : Type} (c : α → α → Int) (S Pre : α → α → Prop) : Prop where
  tr : ∀ x y z, S x y → S y z → S x z
  lt : ∀ x y, Pre x y → c y x < 0 → S y x
  ge : ∀ x y, Pre x y → ¬ c y x < 0 → S x y
theorem pw_ins {α : Type} {c : α → α → Int} {S Pre : α → α → Prop} (o : SOrd c S Pre) {A1 A2 : List α} {x : α} (hA : (A1 ++ A2).Pairwise S) (hp : ∀ y ∈ A1 ++ A2, Pre y x)
    (h2 : A2 = [] ∨ ∃ y r, A2 = y :: r ∧ c x y < 0) (h1 : A1 = [] ∨ ∃ y r, A1 = r ++ [y] ∧ ¬ c x y < 0) : (A1 ++ x :: A2).Pairwise S := by
  rw [List.pairwise_append] at hA ⊢
  obtain ⟨p1, p2, p3⟩ := hA
  have q1 : ∀ a ∈ A1, S a x := by
    rcases h1 with rfl | ⟨y, r, rfl, hy⟩
    · intro a ha; cases ha
    · intro a ha
      have hyx : S y x := o.ge y x (hp y (by simp [-Option.bind_some])) hy
      rw [List.pairwise_append] at p1
      rcases List.mem_append.1 ha with ha | ha
      · exact o.tr _ _ _ (p1.2.2 a ha y (by simp [-Option.bind_some])) hyx
      · simp [-Option.bind_some] at ha; subst ha; exact hyx
  have q2 : ∀ b ∈ A2, S x b := by
    rcases h2 with rfl | ⟨y, r, rfl, hy⟩
    · intro a ha; cases ha
    · intro b hb
      have hxy : S x y := o.lt y x (hp y (by simp [-Option.bind_some])) hy
      rw [List.pairwise_cons] at p2
      rcases List.mem_cons.1 hb with rfl | hb
      · exact hxy
      · exact o.tr _ _ _ hxy (p2.1 b hb)
  refine ⟨p1, List.pairwise_cons.2 ⟨q2, p2⟩, fun a ha b hb => ?_⟩
  rcases List.mem_cons.1 hb with rfl | hb
  · exact q1 a ha
  · exact p3 a ha b hb
theorem dn_spec {α : Type} (c : α → α → Int) (P : List α) (x : α) : ∀ (R : List α) (Q : List α), ∃ A1 A2, R.reverse = A1 ++ A2 ∧ dn c P.length (P.length + R.length) (P ++ R.reverse ++ x :: Q) = P ++ A1 ++ x :: A2 ++ Q ∧
    (A2 = [] ∨ ∃ y r, A2 = y :: r ∧ c x y < 0) ∧ (A1 = [] ∨ ∃ y r, A1 = r ++ [y] ∧ ¬ c x y < 0)
  | [], Q => ⟨[], [], rfl, by
      cases P with
      | nil => simp [-Option.bind_some, dn]
      | cons p P =>
        simp only [List.length_cons, List.length_nil, Nat.add_zero, List.reverse_nil, List.append_nil]
        unfold dn
        split
        · rw [if_neg (by omega)]; simp [-Option.bind_some]
        · simp [-Option.bind_some], .inl rfl, .inl rfl⟩
  | y :: R, Q => by
    have g1 : (P ++ (y :: R).reverse ++ x :: Q)[P.length + R.length + 1]? = some x := by
      rw [List.getElem?_append_right (by simp [-Option.bind_some]; omega)]
      simp [-Option.bind_some]
      try (have : P.length + R.length + 1 - (P.length + (R.length + 1)) = 0 := by omega
           rw [this]; rfl)
    have g0 : (P ++ (y :: R).reverse ++ x :: Q)[P.length + R.length]? = some y := by
      rw [List.getElem?_append_left (by simp [-Option.bind_some]), List.getElem?_append_right (by omega)]
      simp [-Option.bind_some]
    rw [List.length_cons, ← Nat.add_assoc]
    unfold dn
    rw [g1, g0]
    simp only
    by_cases hc : c x y < 0
    · rw [if_pos ⟨by omega, hc⟩]
      have hs : ((P ++ (y :: R).reverse ++ x :: Q).set (P.length + R.length + 1) y).set (P.length + R.length) x = P ++ R.reverse ++ x :: (y :: Q) := by
        have e1 : P ++ (y :: R).reverse ++ x :: Q = (P ++ R.reverse) ++ y :: x :: Q := by simp [-Option.bind_some]
        rw [e1]
        have l1 : (P ++ R.reverse).length = P.length + R.length := by simp [-Option.bind_some]
        rw [List.set_append_right _ _ (by omega), List.set_append_right _ _ (by omega), l1]
        have : P.length + R.length + 1 - (P.length + R.length) = 1 := by omega
        rw [this, Nat.sub_self]
        rfl
      rw [hs]
      obtain ⟨A1, A2, h1, h2, h3, h4⟩ := dn_spec c P x R (y :: Q)
      refine ⟨A1, A2 ++ [y], by simp [-Option.bind_some, h1], by rw [h2]; simp [-Option.bind_some], ?_, h4⟩
      rcases h3 with rfl | ⟨u, r, rfl, hu⟩
      · exact .inr ⟨y, [], rfl, hc⟩
      · exact .inr ⟨u, r ++ [y], rfl, hu⟩
    · rw [if_neg (fun hh => hc hh.2)]
      exact ⟨(y :: R).reverse, [], by simp [-Option.bind_some], by simp [-Option.bind_some], .inl rfl, .inr ⟨y, R.reverse, by simp [-Option.bind_some], hc⟩⟩
theorem dn_ins {α : Type} (c : α → α → Int) (P A Q : List α) (x : α) : ∃ A1 A2, A = A1 ++ A2 ∧ dn c P.length (P.length + A.length) (P ++ A ++ x :: Q) = P ++ A1 ++ x :: A2 ++ Q ∧
    (A2 = [] ∨ ∃ y r, A2 = y :: r ∧ c x y < 0) ∧ (A1 = [] ∨ ∃ y r, A1 = r ++ [y] ∧ ¬ c x y < 0) := by
  have := dn_spec c P x A.reverse Q
  simpa [-Option.bind_some] using this
theorem isr_ok {α : Type} {c : α → α → Int} {S Pre : α → α → Prop} (o : SOrd c S Pre) (P Q : List α) : ∀ (B A : List α), A.Pairwise S → (∀ x ∈ A, ∀ y ∈ B, Pre x y) → B.Pairwise Pre →
    ∃ C, isr c P.length (P.length + A.length) B.length (P ++ A ++ B ++ Q) = P ++ C ++ Q ∧ C.Perm (A ++ B) ∧ C.Pairwise S
  | [], A, hA, _, _ => ⟨A, by simp [-Option.bind_some, isr], by simp [-Option.bind_some], hA⟩
  | x :: B, A, hA, hp, hB => by
    rw [List.pairwise_cons] at hB
    obtain ⟨A1, A2, rfl, h2, h3, h4⟩ := dn_ins c P A (B ++ Q) x
    have hA' : (A1 ++ x :: A2).Pairwise S := pw_ins o hA (fun y hy => hp y hy x (by simp [-Option.bind_some])) h3 h4
    have e1 : P ++ (A1 ++ A2) ++ x :: B ++ Q = P ++ (A1 ++ A2) ++ x :: (B ++ Q) := by simp [-Option.bind_some]
    have hpm : (A1 ++ x :: A2).Perm (x :: (A1 ++ A2)) := List.perm_middle
    obtain ⟨C, q1, q2, q3⟩ := isr_ok o P Q B (A1 ++ x :: A2) hA' (fun u hu v hv => by
      rcases List.mem_cons.1 (hpm.mem_iff.1 hu) with rfl | hu
      · exact hB.1 v hv
      · exact hp u hu v (by simp [-Option.bind_some, hv])) hB.2
    refine ⟨C, ?_, q2.trans ?_, q3⟩
    · rw [List.length_cons]
      unfold isr
      rw [e1, h2, ← q1]
      have e2 : P.length + (A1 ++ A2).length + 1 = P.length + (A1 ++ x :: A2).length := by simp [-Option.bind_some]; omega
      have e3 : P ++ A1 ++ x :: A2 ++ (B ++ Q) = P ++ (A1 ++ x :: A2) ++ B ++ Q := by simp [-Option.bind_some]
      rw [e2, e3]
    · have : ((A1 ++ x :: A2) ++ B).Perm ((x :: (A1 ++ A2)) ++ B) := hpm.append_right B
      refine this.trans ?_
      simpa [-Option.bind_some] using (List.perm_middle (l₁ := A1 ++ A2) (l₂ := B) (a := x)).symm
/-- Blocks of k, each in order, and what stood before stands before. -/
inductive Blk {α : Type} (S Pre : α → α → Prop) (k : Nat) : List α → Prop
  | last (A : List α) (hl : A.length ≤ k) (hs : A.Pairwise S) : Blk S Pre k A
  | cons (A Y : List α) (hl : A.length = k) (hs : A.Pairwise S) (hp : ∀ x ∈ A, ∀ y ∈ Y, Pre x y) (hY : Blk S Pre k Y) : Blk S Pre k (A ++ Y)
theorem Blk.all {α : Type} {S Pre : α → α → Prop} {k : Nat} {l : List α} (h : Blk S Pre k l) (hl : l.length ≤ k) : l.Pairwise S := by
  cases h with
  | last _ _ hs => exact hs
  | cons A Y hA hs hp hY =>
    have : Y = [] := by
      simp [-Option.bind_some] at hl
      exact List.length_eq_zero_iff.1 (by omega)
    subst this
    simpa [-Option.bind_some] using hs
theorem Blk.fst {α : Type} {S Pre : α → α → Prop} {k : Nat} {l : List α} (h : Blk S Pre k l) (hl : k ≤ l.length) : ∃ A Y, l = A ++ Y ∧ A.length = k ∧ A.Pairwise S ∧ (∀ x ∈ A, ∀ y ∈ Y, Pre x y) ∧ Blk S Pre k Y := by
  cases h with
  | last _ h1 hs => exact ⟨l, [], by simp [-Option.bind_some], by omega, hs, by simp [-Option.bind_some], .last [] (by simp [-Option.bind_some]) List.Pairwise.nil⟩
  | cons A Y hA hs hp hY => exact ⟨A, Y, rfl, hA, hs, hp, hY⟩
/-- What is done so far: X and any behind it in blocks are in blocks. -/
def CtxB {α : Type} (S Pre : α → α → Prop) (k : Nat) (X Y : List α) : Prop := ∀ Z : List α, Z.Perm Y → Blk S Pre k Z → Blk S Pre k (X ++ Z)
theorem CtxB.nil {α : Type} {S Pre : α → α → Prop} {k : Nat} {Y : List α} : CtxB S Pre k [] Y := fun Z _ h => h
theorem CtxB.step {α : Type} {S Pre : α → α → Prop} {k : Nat} {X A Y C : List α} (h : CtxB S Pre k X (A ++ Y)) (hC : C.Perm A) (hl : C.length = k) (hs : C.Pairwise S) (hp : ∀ x ∈ A, ∀ y ∈ Y, Pre x y) : CtxB S Pre k (X ++ C) Y := fun Z hZ hb => by
  rw [List.append_assoc]
  exact h (C ++ Z) (hC.append hZ) (.cons C Z hl hs (fun x hx y hy => hp x (hC.mem_iff.1 hx) y (hZ.mem_iff.1 hy)) hb)
theorem CtxB.done {α : Type} {S Pre : α → α → Prop} {k : Nat} {X Y Z : List α} (h : CtxB S Pre k X Y) (hZ : Z.Perm Y) (hl : Z.length ≤ k) (hs : Z.Pairwise S) : Blk S Pre k (X ++ Z) := h Z hZ (.last Z hl hs)
/-- The two halves of a merge. -/
theorem halves {α : Type} {c : α → α → Int} {S Pre : α → α → Prop} (o : SOrd c S Pre) {A1 A2 B1 B2 C1 C2 : List α} (hA : (A1 ++ A2).Pairwise S) (hB : (B1 ++ B2).Pairwise S) (hp : ∀ x ∈ A1 ++ A2, ∀ y ∈ B1 ++ B2, Pre x y)
    (h1 : A1 = [] ∨ B2 = [] ∨ ∃ x y r s, A1 = r ++ [x] ∧ B2 = y :: s ∧ ¬ c y x < 0) (h2 : A2 = [] ∨ B1 = [] ∨ ∃ x y r s, B1 = r ++ [y] ∧ A2 = x :: s ∧ c y x < 0)
    (p1 : C1.Perm (A1 ++ B1)) (s1 : C1.Pairwise S) (p2 : C2.Perm (A2 ++ B2)) (s2 : C2.Pairwise S) : (C1 ++ C2).Perm ((A1 ++ A2) ++ (B1 ++ B2)) ∧ (C1 ++ C2).Pairwise S := by
  rw [List.pairwise_append] at hA hB
  have x1 : ∀ x ∈ A1, ∀ y ∈ B2, S x y := by
    intro x hx y hy
    rcases h1 with rfl | rfl | ⟨u, v, r, s, rfl, rfl, huv⟩
    · cases hx
    · cases hy
    · have huv : S u v := o.ge u v (hp u (by simp [-Option.bind_some]) v (by simp [-Option.bind_some])) huv
      have q1 : x = u ∨ S x u := by
        have := hA.1
        rw [List.pairwise_append] at this
        rcases List.mem_append.1 hx with hx | hx
        · exact .inr (this.2.2 x hx u (by simp [-Option.bind_some]))
        · simp [-Option.bind_some] at hx; exact .inl hx
      have q2 : y = v ∨ S v y := by
        have := hB.2.1
        rw [List.pairwise_cons] at this
        rcases List.mem_cons.1 hy with rfl | hy
        · exact .inl rfl
        · exact .inr (this.1 y hy)
      rcases q1 with rfl | q1 <;> rcases q2 with rfl | q2
      · exact huv
      · exact o.tr _ _ _ huv q2
      · exact o.tr _ _ _ q1 huv
      · exact o.tr _ _ _ (o.tr _ _ _ q1 huv) q2
  have x2 : ∀ y ∈ B1, ∀ x ∈ A2, S y x := by
    intro y hy x hx
    rcases h2 with rfl | rfl | ⟨u, v, r, s, rfl, rfl, huv⟩
    · cases hx
    · cases hy
    · have huv : S v u := o.lt u v (hp u (by simp [-Option.bind_some]) v (by simp [-Option.bind_some])) huv
      have q1 : y = v ∨ S y v := by
        have := hB.1
        rw [List.pairwise_append] at this
        rcases List.mem_append.1 hy with hy | hy
        · exact .inr (this.2.2 y hy v (by simp [-Option.bind_some]))
        · simp [-Option.bind_some] at hy; exact .inl hy
      have q2 : x = u ∨ S u x := by
        have := hA.2.1
        rw [List.pairwise_cons] at this
        rcases List.mem_cons.1 hx with rfl | hx
        · exact .inl rfl
        · exact .inr (this.1 x hx)
      rcases q1 with rfl | q1 <;> rcases q2 with rfl | q2
      · exact huv
      · exact o.tr _ _ _ huv q2
      · exact o.tr _ _ _ q1 huv
      · exact o.tr _ _ _ (o.tr _ _ _ q1 huv) q2
  refine ⟨?_, List.pairwise_append.2 ⟨s1, s2, fun a ha b hb => ?_⟩⟩
  · refine (p1.append p2).trans ?_
    have : (B1 ++ (A2 ++ B2)).Perm (A2 ++ (B1 ++ B2)) := by
      rw [← List.append_assoc, ← List.append_assoc]
      exact List.perm_append_comm.append_right B2
    simpa [-Option.bind_some] using this.append_left A1
  · rcases List.mem_append.1 (p1.mem_iff.1 ha) with ha | ha <;> rcases List.mem_append.1 (p2.mem_iff.1 hb) with hb | hb
    · exact hA.2.2 a ha b hb
    · exact x1 a ha b hb
    · exact x2 a ha b hb
    · exact hB.2.2 a ha b hb
theorem wrap_u8m (n : Int) : IntKind.wrap .u8 n = n % 256 := by
  unfold IntKind.wrap
  simp [-Option.bind_some, IntKind.signed, IntKind.bits, IntKind.min, IntKind.max]
theorem set_mid {α : Type} (A B : List α) (x y : α) (n : Nat) (hn : A.length = n) : (A ++ x :: B).set n y = A ++ y :: B := by
  subst hn
  rw [List.set_append_right _ _ (Nat.le_refl _)]
  simp [-Option.bind_some]
theorem get_midn {α : Type} (A B : List α) (x : α) (n : Nat) (hn : A.length = n) : (A ++ x :: B)[n]? = some x := by
  subst hn
  simp [-Option.bind_some]
/-- The middle, as the sort computes it. -/
theorem mid_ok {i j : Nat} (hi : i ≤ 1000000000) (hj : j ≤ 1000000000) : IntKind.wrap .i64 ((i : Int) + j) = ((i + j : Nat) : Int) ∧ IntKind.wrap .u64 ((i + j : Nat) : Int) = ((i + j : Nat) : Int) ∧ (((i + j : Nat) : Int)).fdiv (2 ^ min ((1 : Int).toNat) IntKind.u64.bits) = (((i + j) / 2 : Nat) : Int) ∧ IntKind.wrap .i64 (((i + j) / 2 : Nat) : Int) = (((i + j) / 2 : Nat) : Int) := by
  have m1 : min ((1 : Int).toNat) IntKind.u64.bits = 1 := by decide
  have p1 : (2 : Int) ^ 1 = 2 := by decide
  refine ⟨?_, wrap_u64 (by omega) (by omega), ?_, wrap_i64 (by omega) (by omega)⟩
  · rw [wrap_i64 (by omega) (by omega)]; omega
  · rw [m1, p1, Int.fdiv_eq_ediv_of_nonneg _ (by omega)]; omega
theorem getm {α : Type} (P A B : List α) (t : Nat) (h0 : P.length ≤ t) (h1 : t < P.length + A.length) : (P ++ A ++ B)[t]? = A[t - P.length]? := by
  rw [List.append_assoc, List.getElem?_append_right h0, List.getElem?_append_left (by omega)]
theorem last_of {α : Type} {A : List α} {t : Nat} {y : α} (ht : 0 < t) (hy : A[t - 1]? = some y) : ∃ r, A.take t = r ++ [y] := by
  refine ⟨A.take (t - 1), ?_⟩
  conv => lhs; rw [show t = (t - 1) + 1 by omega, List.take_add_one, hy]
  simp [-Option.bind_some]
theorem first_of {α : Type} {A : List α} {t : Nat} {y : α} (hy : A[t]? = some y) : ∃ r, A.drop t = y :: r := by
  obtain ⟨hn, hh⟩ := List.getElem?_eq_some_iff.1 hy
  exact ⟨A.drop (t + 1), by rw [List.drop_eq_getElem_cons hn, hh]⟩
/-- Two comparisons, the second under the first. -/
theorem and_lss (b1 : Bool) (a c : Int) (t : Nat) {β : Type} (f : D → Option β) : ((gd (.bool b1) true (some (.int .i64 a))).bind fun t2 => (gd (.bool b1) true (some (.int .i64 c))).bind fun t3 => (gd (.bool b1) true (dBin tab .lss t t2 t3)).bind fun t4 => (dPick (.bool b1) t4 (.bool false)).bind f) = f (.bool (b1 && decide (a < c))) := by
  cases b1
  · simp only [gd_bool, reduceCtorEq, if_false, bs, dPick_bool, Bool.false_eq_true, Bool.false_and]
  · simp only [gd_bool, if_true, bs, dPick_bool, dBin_lss, Bool.true_and]
theorem Blk.len {α : Type} {S Pre : α → α → Prop} {k : Nat} {l : List α} (h : Blk S Pre k l) (hl : l.length < k) : l.Pairwise S := h.all (by omega)
theorem pre_split {α : Type} {Pre : α → α → Prop} {A B : List α} (h : (A ++ B).Pairwise Pre) : A.Pairwise Pre ∧ B.Pairwise Pre ∧ ∀ x ∈ A, ∀ y ∈ B, Pre x y := List.pairwise_append.1 h
/-- A row of a result: its key, its numbers, its error. -/
structure Rw where
  k : List Str
  kd : D
  hk : SlOf 1 (fun s => [D.str s]) k kd
  hkl : k.length ≤ 1000000
  n : List Int
  nd : D
  hn : SlOf 1 inr n nd
  hnl : n.length ≤ 1000000
  er : Int
def rowr (r : Rw) : List D := [r.kd, r.nd, .int .i64 r.er]
theorem rowr_okv (r : Rw) : (D.agg (rowr r)).okv = true := by
  have h1 := slof_one r.hk
  have h2 := slof_one r.hn
  have h3 : (D.agg (rowr r)) = .agg [r.kd, r.nd, .int .i64 r.er] := rfl
  rw [h3]
  generalize r.kd = a at h1
  generalize r.nd = b at h2
  simp [-Option.bind_some, D.okv, h1, h2, D.one]
theorem ldob2R {h : Hp} {q k T z : Nat} {rows : List (List D)} {p : Rw} (hq : h[q]? = some (.row T z rows)) (hk : rows[k]? = some (rowr p)) : dLoad tab h ty1146 (.ptr q k 0) = some (.agg (rowr p)) := by
  rw [ldp1146, row_of hq, hk]
  rfl
theorem l1192 (c : Rw → Rw → Int) (cmp : D) (hc : ∀ x y g, callV R cmp [.agg (rowr x), .agg (rowr y)] g = some (.int .i64 (c x y), g)) (ob N a : Nat) (hN : N ≤ 1000000000) {β : Type} {K : Out → Option β} {Q : β → Prop}
    (l : List Rw) (hl : l.length = N) (j : Nat) (hj : j < N) (h : Hp) (ho : h[ob]? = some (.row ty1146 3 (l.map rowr))) (b : D)
    (k : ∀ x y h', h'[ob]? = some (.row ty1146 3 ((dn c a j l).map rowr)) → Same ob h h' → Wp (K (.ext 2, [x, y], h')) Q) :
    Wp ((loopW (F1192_L1 (.msl 3 ob 0 N) (.int .i64 a) cmp) [.int .i64 j, b] h).bind K) Q := by
  generalize hV : dn c a j l = V at k
  refine Wp.loop (fun n ds g => ∃ b, ∃ j : Nat, ∃ l' : List Rw, n = j ∧ ds = [.int .i64 j, b] ∧ l'.length = N ∧ j < N ∧ g[ob]? = some (.row ty1146 3 (l'.map rowr)) ∧ Same ob h g ∧ dn c a j l' = V)
    (fun r => r.1 = .ext 2 ∧ (∃ x y, r.2.1 = [x, y]) ∧ r.2.2[ob]? = some (.row ty1146 3 (V.map rowr)) ∧ Same ob h r.2.2) j ⟨b, j, l, rfl, rfl, hl, hj, ho, .refl _ _, hV⟩ ?_ ?_
  · clear ho hl hj hV l j
    rintro n ds g ⟨b, j, l, rfl, rfl, hl, hj, ho, sm, hV⟩
    simp only [F1192_L1, nth_zero, nth_succ, bs, Option.bind_assoc, dBin_gtr]
    cases n with
    | zero =>
      have hq : ¬ (a : Int) < ((0 : Nat) : Int) := by omega
      have hV : l = V := hV
      subst hV
      simp only [hq, decide_false, gd_bool, gdW_bool, Bool.false_eq_true, if_false, reduceCtorEq, bs, dPick_bool, dIf_bool]
      exact .some (.inr ⟨by simp [-Option.bind_some], rfl, ⟨_, _, rfl⟩, ho, sm⟩)
    | succ j =>
      have g1 : l[j + 1]? = some l[j + 1] := List.getElem?_eq_getElem (by omega)
      have g0 : l[j]? = some l[j] := List.getElem?_eq_getElem (by omega)
      unfold dn at hV
      rw [g1, g0] at hV
      simp only at hV
      generalize l[j + 1] = x at g1 hV
      generalize l[j] = y at g0 hV
      by_cases ha : a < j + 1
      · have ha' : (a : Int) < ((j + 1 : Nat) : Int) := by omega
        have hw : IntKind.wrap .i64 (((j + 1 : Nat) : Int) - 1) = (j : Int) := by
          rw [wrap_i64 (by omega) (by omega)]; omega
        have i1 : (0 : Int) ≤ ((j + 1 : Nat) : Int) ∧ ((j + 1 : Nat) : Int) < (N : Int) := by omega
        have i0 : (0 : Int) ≤ (j : Int) ∧ (j : Int) < (N : Int) := by omega
        have m1 : (l.map rowr)[j + 1]? = some (rowr x) := by rw [List.getElem?_map, g1]; rfl
        have m0 : (l.map rowr)[j]? = some (rowr y) := by rw [List.getElem?_map, g0]; rfl
        simp only [ha', decide_true, gd_bool, gdW_bool, if_true, ixm1144, i1, i0, and_self, Nat.zero_add, Int.toNat_natCast, dBin_sub, hw, bs, ldob2R ho m1, ldob2R ho m0, hc, dBin_lss, dPick_bool]
        by_cases hlt : c x y < 0
        · rw [if_pos ⟨ha, hlt⟩] at hV
          simp only [hlt, decide_true, dIf_bool, if_true]
          refine wst1146 ho m1 (by rfl) (by simp [-Option.bind_some, rowr]) (rowr_okv _) fun g2 p2 s2 => ?_
          rw [show spl (rowr x) 0 (cells1 (.agg (rowr y))) = rowr y from id rfl, set_map_row] at p2
          have m2 : ((l.set (j + 1) y).map rowr)[j]? = some (rowr y) := by
            rw [List.getElem?_map, List.getElem?_set_ne (by omega), g0]; rfl
          try simp only [bs, i0, and_self, if_true, Nat.zero_add, Int.toNat_natCast]
          refine wst1146 p2 m2 (by rfl) (by simp [-Option.bind_some, rowr]) (rowr_okv _) fun g3 p3 s3 => ?_
          rw [show spl (rowr y) 0 (cells1 (.agg (rowr x))) = rowr x from id rfl, set_map_row] at p3
          try simp only [bs]
          exact .some (.inl ⟨rfl, j, by omega, _, j, _, rfl, rfl, by simpa [-Option.bind_some] using hl, by omega, p3, (sm.trans s2).trans s3, hV⟩)
        · rw [if_neg (fun hh => hlt hh.2)] at hV
          subst hV
          simp only [hlt, decide_false, dIf_bool, Bool.false_eq_true, if_false]
          exact .some (.inr ⟨by simp [-Option.bind_some], rfl, ⟨_, _, rfl⟩, ho, sm⟩)
      · rw [if_neg (fun hh => ha hh.1)] at hV
        subst hV
        have ha' : ¬ (a : Int) < ((j + 1 : Nat) : Int) := by omega
        simp only [ha', decide_false, gd_bool, gdW_bool, Bool.false_eq_true, if_false, reduceCtorEq, bs, dPick_bool, dIf_bool]
        exact .some (.inr ⟨by simp [-Option.bind_some], rfl, ⟨_, _, rfl⟩, ho, sm⟩)
  · rintro ⟨x, ds, g⟩ ⟨rfl, ⟨u, v, rfl⟩, h1, h2⟩
    exact k u v g h1 h2
theorem s1192 (c : Rw → Rw → Int) (cmp : D) (hc : ∀ x y g, callV R cmp [.agg (rowr x), .agg (rowr y)] g = some (.int .i64 (c x y), g)) (ob N a b : Nat) (hN : N ≤ 1000000000) (hab : a < b ∨ (a = b ∧ b ≤ N)) (hb : b ≤ N)
    (l : List Rw) (hl : l.length = N) (h : Hp) (ho : h[ob]? = some (.row ty1146 3 (l.map rowr))) :
    ∃ d h', R fn1192 [.msl 3 ob 0 N, .int .i64 a, .int .i64 b, cmp] h = some (d, h') ∧ h'[ob]? = some (.row ty1146 3 ((isr c a (a + 1) (b - (a + 1)) l).map rowr)) ∧ Same ob h h' := by
  suffices Wp (R fn1192 [.msl 3 ob 0 N, .int .i64 a, .int .i64 b, cmp] h) (fun p => p.2[ob]? = some (.row ty1146 3 ((isr c a (a + 1) (b - (a + 1)) l).map rowr)) ∧ Same ob h p.2) by
    obtain ⟨⟨x, h'⟩, h1, h2⟩ := this
    exact ⟨x, h', h1, h2⟩
  rw [e1192]
  have hw : IntKind.wrap .i64 ((a : Int) + 1) = ((a + 1 : Nat) : Int) := by rw [wrap_i64 (by omega) (by omega)]; omega
  simp only [F1192, bs, Option.bind_assoc, dBin_add, hw]
  generalize hV : isr c a (a + 1) (b - (a + 1)) l = V
  refine Wp.loop (fun n ds g => ∃ u v w, ∃ i : Nat, ∃ l' : List Rw, ds = [.int .i64 i, u, v, w] ∧ n = b - i ∧ l'.length = N ∧ g[ob]? = some (.row ty1146 3 (l'.map rowr)) ∧ Same ob h g ∧ isr c a i (b - i) l' = V)
    (fun r => r.1 = .ext 0 ∧ r.2.2[ob]? = some (.row ty1146 3 (V.map rowr)) ∧ Same ob h r.2.2) (b - (a + 1)) ⟨_, _, _, a + 1, l, rfl, rfl, hl, ho, .refl _ _, hV⟩ ?_ ?_
  · rintro n ds g ⟨u, v, w, i, l', rfl, rfl, hl', ho', sm, hV⟩
    simp only [F1192_L0, nth_zero, nth_succ, bs, Option.bind_assoc, dBin_lss]
    refine Wp.dif ?_ ?_
    · intro h0
      have h0 : i < b := by have : (i : Int) < (b : Int) := by simpa [-Option.bind_some] using h0
                            omega
      have hb1 : b - i = (b - (i + 1)) + 1 := by omega
      rw [hb1] at hV
      unfold isr at hV
      have hw2 : IntKind.wrap .i64 ((i : Int) + 1) = ((i + 1 : Nat) : Int) := by rw [wrap_i64 (by omega) (by omega)]; omega
      refine l1192 c cmp hc ob N a hN l' hl' i (by omega) g ho' _ fun x y g2 p2 s2 => ?_
      simp only [unblk_self, unblk_nrm, toEnd_nrm, bs, nth_zero, dBin_add, hw2]
      exact .some (.inl ⟨rfl, b - (i + 1), by omega, _, _, _, i + 1, _, rfl, rfl, by rw [dn_len]; exact hl', p2, sm.trans s2, hV⟩)
    · intro h0
      have h0 : ¬ i < b := by have : ¬ (i : Int) < (b : Int) := by simpa [-Option.bind_some] using h0
                              omega
      rw [show b - i = 0 by omega] at hV
      have hV : l' = V := hV
      subst hV
      exact .some (.inr ⟨by simp [-Option.bind_some], rfl, ho', sm⟩)
  · rintro ⟨x, ds, g⟩ ⟨rfl, h1, h2⟩
    simp only [unblk_self, exEnd_nrm, bs]
    exact .some ⟨h1, h2⟩
theorem fldLR {g : Hp} {o n : Nat} {rows : List Rw} {p : Rw} (ho : g[o]? = some (.row ty1146 3 (rows.map rowr))) (hp : rows[n]? = some p) : dLoad tab g ty1146 (.ptr o n 0) = some (.agg (rowr p)) := by
  have hr : (rows.map rowr)[n]? = some (rowr p) := by rw [List.getElem?_map, hp]; rfl
  rw [ldp1146, row_of ho, hr]
  rfl
/-- swapRange: two parts of one length are exchanged. -/
theorem w1202 {g : Hp} {o N : Nat} {P X M Y Q : List Rw} (hN : N ≤ 1000000000) (hlen : (P ++ X ++ M ++ Y ++ Q).length = N) (hxy : X.length = Y.length) (ho : g[o]? = some (.row ty1146 3 ((P ++ X ++ M ++ Y ++ Q).map rowr))) (cmp : D) (a b k : Int) (ha : a = P.length) (hb : b = (P.length + X.length + M.length : Nat)) (hk : k = X.length) {β : Type} {f : D × Hp → Option β} {R1 : β → Prop}
    (K : ∀ g', g'[o]? = some (.row ty1146 3 ((P ++ Y ++ M ++ X ++ Q).map rowr)) → Same o g g' → Wp (f (mkRes [], g')) R1) : Wp ((R fn1202 [.msl 3 o 0 N, .int .i64 a, .int .i64 b, .int .i64 k, cmp] g).bind f) R1 := by
  subst ha hb hk
  rw [e1202]
  simp only [F1202, bs, Option.bind_assoc]
  simp only [List.length_append] at hlen
  refine Wp.loop (fun kk ds g' => ∃ x, ∃ i : Nat, ds = [.int .i64 i, x] ∧ kk + i = X.length ∧ Same o g g' ∧ g'[o]? = some (.row ty1146 3 ((P ++ Y.take i ++ X.drop i ++ M ++ X.take i ++ Y.drop i ++ Q).map rowr)))
    (fun r => r.1 = .ext 0 ∧ (∃ x y, r.2.1 = [x, y]) ∧ Same o g r.2.2 ∧ r.2.2[o]? = some (.row ty1146 3 ((P ++ Y ++ M ++ X ++ Q).map rowr))) X.length ⟨_, 0, rfl, rfl, ⟨rfl, fun _ _ => rfl⟩, by simpa [-Option.bind_some] using ho⟩ ?_ ?_
  · rintro kk ds g' ⟨x1, i, rfl, hk, sm, ho'⟩
    simp only [F1202_L0, nth_zero, nth_succ, bs, Option.bind_assoc, dBin_lss]
    refine Wp.dif ?_ ?_
    · intro h0
      have h0 : i < X.length := by have : (i : Int) < X.length := by simpa [-Option.bind_some] using h0
                                   omega
      obtain ⟨x, hx⟩ : ∃ x, X[i]? = some x := ⟨_, List.getElem?_eq_getElem h0⟩
      obtain ⟨y, hy⟩ : ∃ y, Y[i]? = some y := ⟨_, List.getElem?_eq_getElem (by omega)⟩
      have hdx : X.drop i = x :: X.drop (i + 1) := by
        obtain ⟨hn, hh⟩ := List.getElem?_eq_some_iff.1 hx
        rw [List.drop_eq_getElem_cons hn, hh]
      have hdy : Y.drop i = y :: Y.drop (i + 1) := by
        obtain ⟨hn, hh⟩ := List.getElem?_eq_some_iff.1 hy
        rw [List.drop_eq_getElem_cons hn, hh]
      have hw : IntKind.wrap .i64 ((i : Int) + 1) = ((i + 1 : Nat) : Int) := by
        rw [wrap_i64 (by omega) (by omega)]; omega
      have wa : IntKind.wrap .i64 ((P.length : Int) + i) = ((P.length + i : Nat) : Int) := by
        rw [wrap_i64 (by omega) (by omega)]; omega
      have wb : IntKind.wrap .i64 (((P.length + X.length + M.length : Nat) : Int) + i) = ((P.length + X.length + M.length + i : Nat) : Int) := by
        rw [wrap_i64 (by omega) (by omega)]; omega
      have e1 : P ++ Y.take i ++ X.drop i ++ M ++ X.take i ++ Y.drop i ++ Q = (P ++ Y.take i) ++ x :: (X.drop (i + 1) ++ M ++ X.take i ++ y :: (Y.drop (i + 1) ++ Q)) := by rw [hdx, hdy]; simp [-Option.bind_some]
      have e2 : (P ++ Y.take i) ++ x :: (X.drop (i + 1) ++ M ++ X.take i ++ y :: (Y.drop (i + 1) ++ Q)) = (P ++ Y.take i ++ x :: (X.drop (i + 1) ++ M ++ X.take i)) ++ y :: (Y.drop (i + 1) ++ Q) := by simp [-Option.bind_some]
      have e3 : (P ++ Y.take i) ++ y :: (X.drop (i + 1) ++ M ++ X.take i ++ y :: (Y.drop (i + 1) ++ Q)) = (P ++ Y.take i ++ y :: (X.drop (i + 1) ++ M ++ X.take i)) ++ y :: (Y.drop (i + 1) ++ Q) := by simp [-Option.bind_some]
      have e4 : (P ++ Y.take i ++ y :: (X.drop (i + 1) ++ M ++ X.take i)) ++ x :: (Y.drop (i + 1) ++ Q) = P ++ Y.take (i + 1) ++ X.drop (i + 1) ++ M ++ X.take (i + 1) ++ Y.drop (i + 1) ++ Q := by
        rw [List.take_add_one, List.take_add_one, hx, hy]; simp [-Option.bind_some]
      have n1 : (P ++ Y.take i).length = P.length + i := by simp [-Option.bind_some]; omega
      have n2 : ∀ z, (P ++ Y.take i ++ z :: (X.drop (i + 1) ++ M ++ X.take i)).length = P.length + X.length + M.length + i := fun z => by simp [-Option.bind_some]; omega
      rw [e1] at ho'
      have la := fldLR ho' (get_midn _ _ x _ n1)
      have lb := fldLR ho' (by rw [e2]; exact get_midn _ _ y _ (n2 x))
      have ia : dIndexAddr tab ty1144 (.msl 3 o 0 N) (.int .i64 ((P.length + i : Nat) : Int)) = some (.ptr o (P.length + i) 0) := by rw [ixm1144, if_pos (by omega), Int.toNat_natCast, Nat.zero_add]
      have ib : dIndexAddr tab ty1144 (.msl 3 o 0 N) (.int .i64 ((P.length + X.length + M.length + i : Nat) : Int)) = some (.ptr o (P.length + X.length + M.length + i) 0) := by rw [ixm1144, if_pos (by omega), Int.toNat_natCast, Nat.zero_add]
      simp only [dBin_add, wa, wb, ia, ib, la, lb, bs, Option.bind_assoc]
      have ra : (((P ++ Y.take i) ++ x :: (X.drop (i + 1) ++ M ++ X.take i ++ y :: (Y.drop (i + 1) ++ Q))).map rowr)[P.length + i]? = some (rowr x) := by rw [List.getElem?_map, get_midn _ _ x _ n1]; rfl
      refine wst1146 (off := 0) (row := rowr x) (v := .agg (rowr y)) ho' ra (by rfl) (by exact Nat.le_refl _) (rowr_okv _) fun g1 p1 w1 => ?_
      have p1 : g1[o]? = some (.row ty1146 3 (((P ++ Y.take i ++ y :: (X.drop (i + 1) ++ M ++ X.take i)) ++ y :: (Y.drop (i + 1) ++ Q)).map rowr)) := by
        rw [p1, show spl (rowr x) 0 (cells1 (.agg (rowr y))) = rowr y from rfl, ← List.map_set, set_mid _ _ x y _ n1, e3]
      try simp only [bs]
      have rb : (((P ++ Y.take i ++ y :: (X.drop (i + 1) ++ M ++ X.take i)) ++ y :: (Y.drop (i + 1) ++ Q)).map rowr)[P.length + X.length + M.length + i]? = some (rowr y) := by rw [List.getElem?_map, get_midn _ _ y _ (n2 y)]; rfl
      refine wst1146 (off := 0) (row := rowr y) (v := .agg (rowr x)) p1 rb (by rfl) (by exact Nat.le_refl _) (rowr_okv _) fun g2 p2 w2 => ?_
      have p2 : g2[o]? = some (.row ty1146 3 ((P ++ Y.take (i + 1) ++ X.drop (i + 1) ++ M ++ X.take (i + 1) ++ Y.drop (i + 1) ++ Q).map rowr)) := by
        rw [p2, show spl (rowr y) 0 (cells1 (.agg (rowr x))) = rowr x from rfl, ← List.map_set, set_mid _ _ y x _ (n2 y), e4]
      simp only [bs, hw]
      exact .some (.inl ⟨rfl, kk - 1, by omega, _, i + 1, rfl, by omega, (sm.trans w1).trans w2, p2⟩)
    · intro h0
      have h0 : i = X.length := by have : ¬ (i : Int) < X.length := by simpa [-Option.bind_some] using h0
                                   omega
      subst h0
      refine .some (.inr ⟨by simp [-Option.bind_some], rfl, ⟨_, _, rfl⟩, sm, ?_⟩)
      rw [ho', hxy, List.take_length, List.drop_length, ← hxy, List.take_length, List.drop_length]
      simp [-Option.bind_some]
  · rintro ⟨ex, ds, g'⟩ ⟨rfl, ⟨x, y, rfl⟩, sm, p⟩
    simp only [unblk_self, exEnd_nrm, bs]
    exact K g' p sm
/-- rotate: two parts side by side are exchanged. -/
theorem w1198 {g : Hp} {o N : Nat} {P U V Q : List Rw} (hN : N ≤ 1000000000) (hlen : (P ++ U ++ V ++ Q).length = N) (hU : 0 < U.length) (hV : 0 < V.length) (ho : g[o]? = some (.row ty1146 3 ((P ++ U ++ V ++ Q).map rowr))) (cmp : D) (a m b : Int) (ha : a = P.length) (hm : m = (P.length + U.length : Nat)) (hb : b = (P.length + U.length + V.length : Nat)) {β : Type} {f : D × Hp → Option β} {R1 : β → Prop}
    (K : ∀ g', g'[o]? = some (.row ty1146 3 ((P ++ V ++ U ++ Q).map rowr)) → Same o g g' → Wp (f (mkRes [], g')) R1) : Wp ((R fn1198 [.msl 3 o 0 N, .int .i64 a, .int .i64 m, .int .i64 b, cmp] g).bind f) R1 := by
  obtain ⟨mm, hmm⟩ : ∃ mm : Nat, mm = P.length + U.length := ⟨_, rfl⟩
  rw [← hmm] at hm
  subst ha hm hb
  have hl := hlen
  simp only [List.length_append] at hl
  have w1 : IntKind.wrap .i64 ((mm : Int) - (P.length : Int)) = (U.length : Int) := by rw [wrap_i64 (by omega) (by omega)]; omega
  have w2 : IntKind.wrap .i64 (((P.length + U.length + V.length : Nat) : Int) - (mm : Int)) = (V.length : Int) := by rw [wrap_i64 (by omega) (by omega)]; omega
  rw [e1198]
  simp only [F1198, bs, Option.bind_assoc, dBin_sub, w1, w2]
  refine Wp.loop (fun kk ds g' => ∃ x y, ∃ P' U' V' Q' : List Rw, ds = [.int .i64 U'.length, .int .i64 V'.length, x, y] ∧ kk = U'.length + V'.length ∧ 0 < U'.length ∧ 0 < V'.length ∧ P'.length + U'.length = mm ∧ P' ++ V' ++ U' ++ Q' = P ++ V ++ U ++ Q ∧ (P' ++ U' ++ V' ++ Q').length = N ∧ Same o g g' ∧ g'[o]? = some (.row ty1146 3 ((P' ++ U' ++ V' ++ Q').map rowr)))
    (fun r => r.1 = .ext 0 ∧ ∃ x y, ∃ P' U' V' Q' : List Rw, r.2.1 = [.int .i64 U'.length, .int .i64 V'.length, x, y] ∧ U'.length = V'.length ∧ P'.length + U'.length = mm ∧ P' ++ V' ++ U' ++ Q' = P ++ V ++ U ++ Q ∧ (P' ++ U' ++ V' ++ Q').length = N ∧ Same o g r.2.2 ∧ r.2.2[o]? = some (.row ty1146 3 ((P' ++ U' ++ V' ++ Q').map rowr)))
    (U.length + V.length) ⟨_, _, P, U, V, Q, rfl, rfl, hU, hV, by omega, rfl, hlen, ⟨rfl, fun _ _ => rfl⟩, ho⟩ ?_ ?_
  · rintro kk ds g' ⟨x, y, P', U', V', Q', rfl, hk, h1, h2, h3, h4, h5, sm, ho'⟩
    have hl' := h5
    simp only [List.length_append] at hl'
    simp only [F1198_L0, nth_zero, nth_succ, bs, Option.bind_assoc, dBin_neq]
    refine Wp.dif ?_ ?_
    · intro h0
      have h0 : U'.length ≠ V'.length := by have : ¬ (U'.length : Int) = V'.length := by simpa [-Option.bind_some] using h0
                                            omega
      simp only [dBin_gtr, bs]
      have wi : IntKind.wrap .i64 ((mm : Int) - (U'.length : Int)) = (P'.length : Int) := by rw [wrap_i64 (by omega) (by omega)]; omega
      by_cases hgt : V'.length < U'.length
      · have hd : decide ((U'.length : Int) > (V'.length : Int)) = true := decide_eq_true (by omega)
        obtain ⟨X, M, hXM, hXl⟩ : ∃ X M, U' = X ++ M ∧ X.length = V'.length := ⟨U'.take V'.length, U'.drop V'.length, (List.take_append_drop _ _).symm, by simp [-Option.bind_some]; omega⟩
        subst hXM
        simp only [List.length_append] at *
        have wd : IntKind.wrap .i64 (((X.length + M.length : Nat) : Int) - (V'.length : Int)) = (M.length : Int) := by rw [wrap_i64 (by omega) (by omega)]; omega
        simp only [hd, dIf_bool, if_true, dBin_sub, wi, wd, bs, Option.bind_assoc]
        refine w1202 (P := P') (X := X) (M := M) (Y := V') (Q := Q') hN (by simp only [List.length_append]; omega) hXl (by simpa [-Option.bind_some] using ho') cmp _ _ _ rfl (by omega) (by omega) fun g1 p1 s1' => ?_
        simp only [bs, unblk_nrm, nth_zero, nth_succ]
        rw [← hXl]
        refine .some (.inl ⟨rfl, M.length + X.length, by omega, _, _, P' ++ V', M, X, Q', rfl, rfl, by omega, by omega, by simp only [List.length_append]; omega, by rw [← h4]; simp [-Option.bind_some], by simp only [List.length_append]; omega, sm.trans s1', by rw [p1]⟩)
      · have hd : decide ((U'.length : Int) > (V'.length : Int)) = false := decide_eq_false (by omega)
        obtain ⟨M, Y, hMY, hYl⟩ : ∃ M Y, V' = M ++ Y ∧ Y.length = U'.length := ⟨V'.take (V'.length - U'.length), V'.drop (V'.length - U'.length), (List.take_append_drop _ _).symm, by simp [-Option.bind_some]; omega⟩
        subst hMY
        simp only [List.length_append] at *
        have we : IntKind.wrap .i64 ((mm : Int) + ((M.length + Y.length : Nat) : Int)) = ((mm + (M.length + Y.length) : Nat) : Int) := by rw [wrap_i64 (by omega) (by omega)]; omega
        have wf' : IntKind.wrap .i64 (((mm + (M.length + Y.length) : Nat) : Int) - (U'.length : Int)) = ((P'.length + U'.length + M.length : Nat) : Int) := by rw [wrap_i64 (by omega) (by omega)]; omega
        have wd : IntKind.wrap .i64 (((M.length + Y.length : Nat) : Int) - (U'.length : Int)) = (M.length : Int) := by rw [wrap_i64 (by omega) (by omega)]; omega
        simp only [hd, dIf_bool, Bool.false_eq_true, if_false, dBin_sub, dBin_add, wi, we, wf', wd, bs, Option.bind_assoc]
        refine w1202 (P := P') (X := U') (M := M) (Y := Y) (Q := Q') hN (by simp only [List.length_append]; omega) hYl.symm (by simpa [-Option.bind_some] using ho') cmp _ _ _ rfl rfl rfl fun g1 p1 s1' => ?_
        simp only [bs, unblk_nrm, nth_zero, nth_succ]
        rw [← hYl]
        refine .some (.inl ⟨rfl, Y.length + M.length, by omega, _, _, P', Y, M, U' ++ Q', rfl, rfl, by omega, by omega, by omega, by rw [← h4]; simp [-Option.bind_some], by simp only [List.length_append]; omega, sm.trans s1', by rw [p1]; simp [-Option.bind_some]⟩)
    · intro h0
      have h0 : U'.length = V'.length := by have : (U'.length : Int) = V'.length := by simpa [-Option.bind_some] using h0
                                            omega
      exact .some (.inr ⟨by simp [-Option.bind_some], rfl, _, _, P', U', V', Q', rfl, h0, h3, h4, h5, sm, ho'⟩)
  · rintro ⟨ex, ds, g'⟩ ⟨rfl, x, y, P', U', V', Q', rfl, h0, h3, h4, h5, sm, ho'⟩
    have hl' := h5
    simp only [List.length_append] at hl'
    have wi : IntKind.wrap .i64 ((mm : Int) - (U'.length : Int)) = (P'.length : Int) := by rw [wrap_i64 (by omega) (by omega)]; omega
    simp only [unblk_self, toEnd_nrm, nth_zero, nth_succ, bs, Option.bind_assoc, dBin_sub, wi]
    refine w1202 (P := P') (X := U') (M := []) (Y := V') (Q := Q') hN (by simp only [List.length_append, List.length_nil]; omega) h0 (by simpa [-Option.bind_some] using ho') cmp _ _ _ rfl (by simp only [List.length_nil]; omega) rfl fun g1 p1 s1' => ?_
    simp only [bs]
    refine K g1 ?_ (sm.trans s1')
    rw [p1, ← h4]
    simp [-Option.bind_some]
/-- Two neighbours in an object are exchanged by two stores. -/
theorem swap_wpR {g : Hp} {o : Nat} {A B : List Rw} {x y : Rw} {n : Nat} (hn : A.length = n) (ho : g[o]? = some (.row ty1146 3 ((A ++ x :: y :: B).map rowr))) {β : Type} {f : Hp → Option β} {Q : β → Prop}
    (K : ∀ g', g'[o]? = some (.row ty1146 3 ((A ++ y :: x :: B).map rowr)) → Same o g g' → Wp (f g') Q) : Wp ((dStore tab g ty1146 (.ptr o n 0) (.agg (rowr y))).bind fun g1 => (dStore tab g1 ty1146 (.ptr o (n + 1) 0) (.agg (rowr x))).bind f) Q := by
  have ra : ((A ++ x :: y :: B).map rowr)[n]? = some (rowr x) := by rw [List.getElem?_map, get_midn _ _ x _ hn]; rfl
  refine wst1146 (off := 0) (row := rowr x) (v := .agg (rowr y)) ho ra (by rfl) (by exact Nat.le_refl _) (rowr_okv _) fun g1 p1 w1 => ?_
  have e1 : A ++ y :: y :: B = (A ++ [y]) ++ y :: B := by simp [-Option.bind_some]
  have n1 : (A ++ [y]).length = n + 1 := by simp [-Option.bind_some, hn]
  have p1 : g1[o]? = some (.row ty1146 3 (((A ++ [y]) ++ y :: B).map rowr)) := by
    rw [p1, show spl (rowr x) 0 (cells1 (.agg (rowr y))) = rowr y from rfl, ← List.map_set, set_mid _ _ x y _ hn, e1]
  have rb : (((A ++ [y]) ++ y :: B).map rowr)[n + 1]? = some (rowr y) := by rw [List.getElem?_map, get_midn _ _ y _ n1]; rfl
  refine wst1146 (off := 0) (row := rowr y) (v := .agg (rowr x)) p1 rb (by rfl) (by exact Nat.le_refl _) (rowr_okv _) fun g2 p2 w2 => ?_
  refine K g2 ?_ (w1.trans w2)
  rw [p2, show spl (rowr y) 0 (cells1 (.agg (rowr x))) = rowr x from rfl, ← List.map_set, set_mid _ _ y x _ n1]
  simp [-Option.bind_some]
/-- The same, the other place first. -/
theorem swap_wp2R {g : Hp} {o : Nat} {A B : List Rw} {x y : Rw} {n : Nat} (hn : A.length = n) (ho : g[o]? = some (.row ty1146 3 ((A ++ x :: y :: B).map rowr))) {β : Type} {f : Hp → Option β} {Q : β → Prop}
    (K : ∀ g', g'[o]? = some (.row ty1146 3 ((A ++ y :: x :: B).map rowr)) → Same o g g' → Wp (f g') Q) : Wp ((dStore tab g ty1146 (.ptr o (n + 1) 0) (.agg (rowr x))).bind fun g1 => (dStore tab g1 ty1146 (.ptr o n 0) (.agg (rowr y))).bind f) Q := by
  have e1 : A ++ x :: y :: B = (A ++ [x]) ++ y :: B := by simp [-Option.bind_some]
  have n1 : (A ++ [x]).length = n + 1 := by simp [-Option.bind_some, hn]
  rw [e1] at ho
  have rb : (((A ++ [x]) ++ y :: B).map rowr)[n + 1]? = some (rowr y) := by rw [List.getElem?_map, get_midn _ _ y _ n1]; rfl
  refine wst1146 (off := 0) (row := rowr y) (v := .agg (rowr x)) ho rb (by rfl) (by exact Nat.le_refl _) (rowr_okv _) fun g1 p1 w1 => ?_
  have p1 : g1[o]? = some (.row ty1146 3 ((A ++ x :: x :: B).map rowr)) := by
    rw [p1, show spl (rowr y) 0 (cells1 (.agg (rowr x))) = rowr x from rfl, ← List.map_set, set_mid _ _ y x _ n1]
    simp [-Option.bind_some]
  have ra : ((A ++ x :: x :: B).map rowr)[n]? = some (rowr x) := by rw [List.getElem?_map, get_midn _ _ x _ hn]; rfl
  refine wst1146 (off := 0) (row := rowr x) (v := .agg (rowr y)) p1 ra (by rfl) (by exact Nat.le_refl _) (rowr_okv _) fun g2 p2 w2 => ?_
  refine K g2 ?_ (w1.trans w2)
  rw [p2, show spl (rowr x) 0 (cells1 (.agg (rowr y))) = rowr y from rfl, ← List.map_set, set_mid _ _ x y _ hn]
theorem ix29nR {o N n : Nat} (h : n < N) : dIndexAddr tab ty1144 (.msl 3 o 0 N) (.int .i64 (n : Int)) = some (.ptr o n 0) := by rw [ixm1144, if_pos (by omega), Int.toNat_natCast, Nat.zero_add]
end Go.Proofs.Yteglojieneaojaa
