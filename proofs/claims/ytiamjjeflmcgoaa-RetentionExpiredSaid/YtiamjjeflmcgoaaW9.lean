import Derived.Test.YtiamjjeflmcgoaaW8
set_option linter.unusedSimpArgs false
set_option linter.unusedVariables false
set_option linter.unnecessarySimpa false
namespace Go.Proofs.Ytiamjjeflmcgoaa
open Go.Eng Go.Pi
/-- What an event that is drawn looks like. -/
def EvOK (e : Ev) : Prop := ItOK e.a0 e.a1 e.a2 ⟨[], e⟩ ∧ 1 ≤ e.a0 ∧ e.a0 ≤ 2 ∧ 5 ≤ e.a1 ∧ e.a1 ≤ 7
def EvsOK (l : List Ev) : Prop := (∀ e ∈ l, EvOK e) ∧ l.Pairwise fun a b => a.a5 ≤ b.a5
theorem lessE_le {a b : Ev} (h : lessE a b = true) : a.a5 ≤ b.a5 := by
  unfold lessE at h
  split at h
  · omega
  · have : a.a5 < b.a5 := by simpa [-Option.bind_some] using h
    omega
theorem not_lessE_le {a b : Ev} (h : ¬ lessE a b = true) : b.a5 ≤ a.a5 := by
  unfold lessE at h
  split at h
  · omega
  · have : ¬ a.a5 < b.a5 := by simpa [-Option.bind_some] using h
    omega
theorem insPos_before (l : List Ev) (e : Ev) : ∀ k, k ≤ l.length → ∀ j x, insPos l e k = j + 1 → l[j]? = some x → x.a5 ≤ e.a5
  | 0, _, j, x, h, _ => by simp [-Option.bind_some, insPos] at h
  | k + 1, hk, j, x, h, hx => by
    have hg : l[k]? = some l[k] := List.getElem?_eq_getElem (by omega)
    simp only [insPos, hg] at h
    split at h
    · exact insPos_before l e k (by omega) j x h hx
    · rename_i hs
      have : k = j := by omega
      subst this
      rw [hg] at hx
      injection hx with hx
      subst hx
      exact not_lessE_le hs
theorem insPos_after (l : List Ev) (e : Ev) : ∀ k, k ≤ l.length → ∀ j x, insPos l e k ≤ j → j < k → l[j]? = some x → e.a5 ≤ x.a5
  | 0, _, j, x, h, hj, _ => by omega
  | k + 1, hk, j, x, h, hj, hx => by
    have hg : l[k]? = some l[k] := List.getElem?_eq_getElem (by omega)
    simp only [insPos, hg] at h
    split at h
    · rename_i hs
      rcases Nat.lt_or_ge j k with hjk | hjk
      · exact insPos_after l e k (by omega) j x h hjk hx
      · have : k = j := by omega
        subst this
        rw [hg] at hx
        injection hx with hx
        subst hx
        exact lessE_le hs
    · omega
theorem ins_len (l : List Ev) (e : Ev) : (ins l e).length = l.length + 1 := by
  have := insPos_le l e l.length
  simp [-Option.bind_some, ins]; omega
theorem ins_ok {l : List Ev} {e : Ev} (hl : EvsOK l) (he : EvOK e) : EvsOK (ins l e) := by
  have hp := insPos_le l e l.length
  refine ⟨fun x hx => ?_, ?_⟩
  · simp only [ins, List.append_assoc, List.mem_append, List.mem_singleton] at hx
    rcases hx with hx | rfl | hx
    · exact hl.1 x (List.mem_of_mem_take hx)
    · exact he
    · exact hl.1 x (List.mem_of_mem_drop hx)
  · have hbef : ∀ x ∈ l.take (insPos l e l.length), x.a5 ≤ e.a5 := by
      intro x hx
      obtain ⟨i, hi⟩ := List.getElem?_of_mem hx
      rw [List.getElem?_take] at hi
      split at hi
      · rename_i hlt
        obtain ⟨j, hj⟩ : ∃ j, insPos l e l.length = j + 1 := ⟨insPos l e l.length - 1, by omega⟩
        have hgj : l[j]? = some l[j] := List.getElem?_eq_getElem (by omega)
        have h1 := insPos_before l e l.length (Nat.le_refl _) j _ hj hgj
        rcases Nat.lt_or_ge i j with hij | hij
        · have h2 := List.pairwise_iff_getElem.1 hl.2 i j (by omega) (by omega) hij
          have : l[i] = x := by
            have := List.getElem?_eq_getElem (l := l) (i := i) (by omega)
            rw [this] at hi
            injection hi
          rw [this] at h2
          exact Int.le_trans h2 h1
        · have : i = j := by omega
          subst this
          rw [hgj] at hi
          injection hi with hi
          rw [← hi]; exact h1
      · cases hi
    have haft : ∀ x ∈ l.drop (insPos l e l.length), e.a5 ≤ x.a5 := by
      intro x hx
      obtain ⟨i, hi⟩ := List.getElem?_of_mem hx
      rw [List.getElem?_drop] at hi
      have hlt := (List.getElem?_eq_some_iff.1 hi).1
      exact insPos_after l e l.length (Nat.le_refl _) _ x (by omega) hlt hi
    unfold ins
    rw [List.append_assoc, List.pairwise_append]
    refine ⟨hl.2.sublist (List.take_sublist _ _), ?_, ?_⟩
    · rw [List.singleton_append, List.pairwise_cons]
      exact ⟨haft, hl.2.sublist (List.drop_sublist _ _)⟩
    · intro a ha b hb
      rcases List.mem_append.1 hb with hb | hb
      · simp [-Option.bind_some] at hb; subst hb; exact hbef a ha
      · exact Int.le_trans (hbef a ha) (haft b hb)
theorem itF1 (i : It) : dFieldAddr tab 74 1 (.fptr (itr i)) = some (.fptr (evr i.e)) := by simp [-Option.bind_some, itr, evr]
theorem itF0 (i : It) : dFieldAddr tab 74 0 (.fptr (itr i)) = some (.fptr (itr i)) := by simp [-Option.bind_some, itr]
theorem itL0 (i : It) (h : Hp) : dLoad tab h 9 (.fptr (itr i)) = some (.str i.r) := by simp [-Option.bind_some, itr]
theorem l48b (ps : List (List It × D)) (d : D) (hd : SlOf 1 (fun p => [p.2]) ps d) (i : Nat) (ds1 : List D) (hds : nth 1 ds1 = .int .i64 i) (its : List It) (y : D) (hi : ps[i]? = some (its, y)) (hy : SlOf 11 itr its y) (hln : its.length ≤ 100)
    (hok : ∀ it ∈ its, it.r = [] → EvOK it.e) (l : List Ev) (x a b : D) (hx : SlOf 10 evr l x) (hl : EvsOK l) (hll : l.length ≤ 100000) (g : Hp) {β : Type} {K : Out → Option β} {Q : β → Prop}
    (cont : ∀ l' x' c a b, SlOf 10 evr l' x' → EvsOK l' → l'.length ≤ l.length + its.length → Wp (K (.ext 4, [x', c, a, b], g)) Q) :
    Wp ((loopW (F48_L2 d ds1) [x, .int .i64 0, a, b] g).bind K) Q := by
  refine Wp.loop (fun k ds g' => g' = g ∧ ∃ x a b, ∃ j : Nat, ∃ l' : List Ev, ds = [x, .int .i64 j, a, b] ∧ SlOf 10 evr l' x ∧ EvsOK l' ∧ l'.length ≤ l.length + j ∧ k + j = its.length)
    (fun r => r.1 = .ext 4 ∧ r.2.2 = g ∧ ∃ x c a b, ∃ l' : List Ev, r.2.1 = [x, c, a, b] ∧ SlOf 10 evr l' x ∧ EvsOK l' ∧ l'.length ≤ l.length + its.length)
    its.length ⟨rfl, x, a, b, 0, l, rfl, hx, hl, by omega, by omega⟩ ?_ ?_
  · rintro k ds g' ⟨rfl, x, a, b, j, l', rfl, hx, hl', hlen, hk⟩
    have hix : dIndexAddr tab 111 d (.int .i64 i) = some (.fptr [y]) := by
      rw [ixs111 hd]; simp [-Option.bind_some, hi]
    simp only [F48_L2, nth_zero, nth_succ, bs, hds, hix, ld113, lens113 hy, dBin_lss, Option.bind_assoc]
    refine Wp.dif ?_ ?_
    · intro h0
      have hj : j < its.length := by have : (j : Int) < its.length := by simpa [-Option.bind_some] using h0
                                     omega
      have hg : its[j]? = some its[j] := List.getElem?_eq_getElem hj
      generalize hit : its[j] = it at hg
      have hiy : dIndexAddr tab 113 y (.int .i64 j) = some (.fptr (itr it)) := by
        rw [ixs113 hy]; simp [-Option.bind_some, hg]
      have hw : IntKind.wrap .i64 ((j : Int) + 1) = ((j + 1 : Nat) : Int) := by
        rw [wrap_i64 (by omega) (by omega)]; omega
      simp only [hiy, bs, itF0, itL0, itF1, evL, dBin_seql]
      refine Wp.join (P := fun r => ∃ x, ∃ l2 : List Ev, r = (.nrm, [x], g') ∧ SlOf 10 evr l2 x ∧ EvsOK l2 ∧ l2.length ≤ l.length + (j + 1)) ?_ ?_ ?_
      · intro hr
        have hr : it.r = [] := by simpa [-Option.bind_some] using hr
        obtain ⟨d', e1, hd'⟩ := s72 l' x it.e g' hx (by omega)
        simp only [e1, bs]
        exact .some ⟨d', _, rfl, hd', ins_ok hl' (hok it (List.mem_of_getElem? hg) hr), by rw [ins_len]; omega⟩
      · intro _
        exact .some ⟨x, l', rfl, hx, hl', by omega⟩
      · rintro _ ⟨x, l2, rfl, hx, hl2, hlen2⟩
        simp only [unblk_nrm, toEnd_nrm, nth_zero, bs, dBin_add, hw]
        exact .some (.inl ⟨rfl, k - 1, by omega, rfl, x, _, _, j + 1, l2, rfl, hx, hl2, hlen2, by omega⟩)
    · intro h0
      exact .some (.inr ⟨by simp [-Option.bind_some], rfl, rfl, x, _, _, _, l', rfl, hx, hl', by omega⟩)
  · rintro ⟨ex, ds, g'⟩ ⟨rfl, rfl, x, c, a, b, l', rfl, hx, hl', hlen⟩
    exact cont l' x c a b hx hl' hlen
theorem l48a (ps : List (List It × D)) (d : D) (hd : SlOf 1 (fun p => [p.2]) ps d) (hln : ps.length ≤ 3) (hok : ∀ p ∈ ps, SlOf 11 itr p.1 p.2 ∧ p.1.length ≤ 100 ∧ ∀ it ∈ p.1, it.r = [] → EvOK it.e)
    (l : List Ev) (x a b c e : D) (hx : SlOf 10 evr l x) (hl : EvsOK l) (hll : l.length ≤ 10000) (g : Hp) {β : Type} {K : Out → Option β} {Q : β → Prop}
    (cont : ∀ l' x' f a b c e, SlOf 10 evr l' x' → EvsOK l' → l'.length ≤ l.length + 300 → Wp (K (.ext 2, [x', f, a, b, c, e], g)) Q) :
    Wp ((loopW (F48_L1 d) [x, .int .i64 0, a, b, c, e] g).bind K) Q := by
  refine Wp.loop (fun k ds g' => g' = g ∧ ∃ x a b c e, ∃ j : Nat, ∃ l' : List Ev, ds = [x, .int .i64 j, a, b, c, e] ∧ SlOf 10 evr l' x ∧ EvsOK l' ∧ l'.length ≤ l.length + 100 * j ∧ k + j = ps.length)
    (fun r => r.1 = .ext 2 ∧ r.2.2 = g ∧ ∃ x f a b c e, ∃ l' : List Ev, r.2.1 = [x, f, a, b, c, e] ∧ SlOf 10 evr l' x ∧ EvsOK l' ∧ l'.length ≤ l.length + 300)
    ps.length ⟨rfl, x, a, b, c, e, 0, l, rfl, hx, hl, by omega, by omega⟩ ?_ ?_
  · rintro k ds g' ⟨rfl, x, a, b, c, e, j, l', rfl, hx, hl', hlen, hk⟩
    simp only [F48_L1, nth_zero, nth_succ, bs, lens111 hd, dBin_lss, Option.bind_assoc]
    refine Wp.dif ?_ ?_
    · intro h0
      have hj : j < ps.length := by have : (j : Int) < ps.length := by simpa [-Option.bind_some] using h0
                                    omega
      have hg : ps[j]? = some ps[j] := List.getElem?_eq_getElem hj
      generalize hit : ps[j] = p at hg
      obtain ⟨hy, hpl, hpe⟩ := hok p (List.mem_of_getElem? hg)
      have hw : IntKind.wrap .i64 ((j : Int) + 1) = ((j + 1 : Nat) : Int) := by
        rw [wrap_i64 (by omega) (by omega)]; omega
      refine l48b ps d hd j _ rfl p.1 p.2 (by rw [hg]) hy hpl hpe l' x _ _ hx hl' (by omega) g' ?_
      intro l2 x2 c2 a2 b2 hx2 hl2 hlen2
      simp only [unblk_self, unblk_nrm, toEnd_nrm, nth_zero, nth_succ, bs, dBin_add, hw]
      exact .some (.inl ⟨rfl, k - 1, by omega, rfl, x2, _, _, _, _, j + 1, l2, rfl, hx2, hl2, by omega, by omega⟩)
    · intro h0
      exact .some (.inr ⟨by simp [-Option.bind_some], rfl, rfl, x, _, _, _, _, _, l', rfl, hx, hl', by omega⟩)
  · rintro ⟨ex, ds, g'⟩ ⟨rfl, rfl, x, f, a, b, c, e, l', rfl, hx, hl', hlen⟩
    exact cont l' x f a b c e hx hl' hlen
theorem d48 {h : Hp} {o : Nat} (hc : CD h o) (most : Int) (hm0 : 0 ≤ most) (hm1 : most ≤ 100) : ∃ x h', R 48 [.ptr o 0 0, .int .i64 most] h = some (x, h') ∧ CD h' o ∧ Same o h h' ∧ ∃ l : List Ev, SlOf 10 evr l x ∧ EvsOK l ∧ l.length ≤ 600 := by
  suffices Wp (R 48 [.ptr o 0 0, .int .i64 most] h) (fun p => CD p.2 o ∧ Same o h p.2 ∧ ∃ l : List Ev, SlOf 10 evr l p.1 ∧ EvsOK l ∧ l.length ≤ 600) by
    obtain ⟨⟨x, h'⟩, h1, h2⟩ := this
    exact ⟨x, h', h1, h2⟩
  rw [e48]
  simp only [F48, bs, Option.bind_assoc]
  refine Wp.loop (fun k ds g => ∃ x a b c d e f' g', ∃ j : Nat, ∃ l : List Ev, ds = [x, .int .i64 j, a, b, c, d, e, f', g'] ∧ CD g o ∧ Same o h g ∧ SlOf 10 evr l x ∧ EvsOK l ∧ l.length + 300 ≤ 300 * j ∧ k + j = 3 ∧ 1 ≤ j)
    (fun r => r.1 = .ext 0 ∧ ∃ x a b c d e f' g' h', ∃ l : List Ev, r.2.1 = [x, a, b, c, d, e, f', g', h'] ∧ CD r.2.2 o ∧ Same o h r.2.2 ∧ SlOf 10 evr l x ∧ EvsOK l ∧ l.length ≤ 600)
    2 ⟨.nils, .any, .any, .any, .any, .any, .any, .any, 1, [], rfl, hc, .refl _ _, SlOf.nils _ _, ⟨by simp [-Option.bind_some], by simp [-Option.bind_some]⟩, by simp [-Option.bind_some], rfl, by omega⟩ ?_ ?_
  · rintro k ds g ⟨x, a, b, c, d, e, f', g', j, l, rfl, hc, hs, hx, hl, hlen, hk, hj⟩
    simp only [F48_L0, nth_zero, nth_succ, bs, Option.bind_assoc]
    obtain ⟨v, g1, e1, c1, s1, v0, v1⟩ := next_b hc 2 (by omega) (by omega)
    refine Wp.step e1 ?_
    simp only [dBin_add, wrap_i64 (n := 1 + v) (by omega) (by omega), dBin_leq, bs]
    refine Wp.dif ?_ ?_
    · intro h0
      have h0 : (j : Int) ≤ 1 + v := by simpa [-Option.bind_some] using h0
      obtain ⟨y, g2, e2, c2, s2, ps, hy, hpl, hps⟩ := d71 c1 j most hm0 hm1
      refine Wp.step e2 ?_
      simp only [bs]
      have hok : ∀ p ∈ ps, SlOf 11 itr p.1 p.2 ∧ p.1.length ≤ 100 ∧ ∀ it ∈ p.1, it.r = [] → EvOK it.e := by
        intro p hp
        obtain ⟨f, hf⟩ := List.getElem?_of_mem hp
        obtain ⟨h1, h2, po, h3⟩ := hps f p hf
        refine ⟨h1, by omega, fun it hit hr => ?_⟩
        obtain ⟨fr, hio⟩ := items_mem _ _ _ _ _ h3 it hit
        have hf3 := (List.getElem?_eq_some_iff.1 hf).1
        have e0 := hio.host
        have e1 := hio.file
        have e2 := hio.fr
        refine ⟨?_, by omega, by omega, by omega, by omega⟩
        have : (⟨[], it.e⟩ : It) = it := by cases it; simp [-Option.bind_some] at hr; simp [-Option.bind_some, hr]
        rw [this, e0, e1, e2]; exact hio
      refine l48a ps y hy hpl hok l x _ _ _ _ hx hl (by omega) g2 ?_
      intro l2 x2 f2 a2 b2 c3 e3 hx2 hl2 hlen2
      have hw : IntKind.wrap .i64 ((j : Int) + 1) = ((j + 1 : Nat) : Int) := by
        rw [wrap_i64 (by omega) (by omega)]; omega
      simp only [unblk_self, unblk_nrm, toEnd_nrm, nth_zero, nth_succ, bs, dBin_add, hw]
      exact .some (.inl ⟨rfl, k - 1, by omega, x2, _, _, _, _, _, _, _, j + 1, l2, rfl, c2, (hs.trans s1).trans s2, hx2, hl2, by omega, by omega, by omega⟩)
    · intro h0
      exact .some (.inr ⟨by simp [-Option.bind_some], rfl, x, _, _, _, _, _, _, _, _, l, rfl, c1, hs.trans s1, hx, hl, by omega⟩)
  · rintro ⟨ex, ds, g⟩ ⟨rfl, x, a, b, c, d, e, f', g', h', l, rfl, hc, hs, hx, hl, hlen⟩
    simp only [unblk_self, toEnd_nrm, nth_zero, bs, mkRes_one]
    exact .some ⟨hc, hs, l, hx, hl, hlen⟩
end Go.Proofs.Ytiamjjeflmcgoaa
