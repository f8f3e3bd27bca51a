/- A statement whose order is open, whole. No program is named here. -/
import Derived.Test.YtfjbbeleejnbgaaPiR
set_option linter.unusedSimpArgs false
set_option linter.unusedVariables false
set_option linter.unnecessarySimpa false
namespace Go.Pi
open Go.Eng

theorem all_of_count (p : Nat → Bool) : ∀ (m : Nat), ((List.range m).filter p).length = m → ∀ i, i < m → p i = true := fun m h i hi => by
  have h1 : (List.range m).filter p = List.range m := by
    apply List.filter_eq_self.2
    intro a ha
    rcases Nat.lt_or_ge ((List.range m).filter p).length (List.range m).length with hlt | hge
    · simp at hlt; omega
    · cases hp : p a with
      | true => rfl
      | false =>
        exfalso
        have : ((List.range m).filter p).length < (List.range m).length := by
          apply List.length_filter_lt_length_iff_exists.2
          exact ⟨a, ha, by simp [hp]⟩
        omega
  exact List.filter_eq_self.1 h1 i (by simp [hi])

/-- What is known of all new variables of which nothing is told yet. -/
def PendAll (T : Tab) (fz : List Nat) (g0 g : Gh) (a : Act) (ops : List Oper) : Prop :=
  (∀ (i : Nat) (o : Oper) (t : Nat), ops[i]? = some o → kindOf T fz o = .limbo → o.dst = some t → Pend T g0 g o (a.tmps.getD t undef)) ∧
  ∀ (i j : Nat) (o p : Oper) (t u : Nat), ops[i]? = some o → ops[j]? = some p → kindOf T fz o = .limbo → kindOf T fz p = .limbo → o.dst = some t → p.dst = some u → i ≠ j → a.tmps.getD t undef ≠ a.tmps.getD u undef
theorem PendAll.tail {T : Tab} {fz : List Nat} {g0 g : Gh} {a : Act} {o : Oper} {ops : List Oper} (h : PendAll T fz g0 g a (o :: ops)) : PendAll T fz g0 g a ops :=
  ⟨fun i p t hp => h.1 (i + 1) p t (by simpa using hp), fun i j p q t u hp hq h1 h2 h3 h4 hne => h.2 (i + 1) (j + 1) p q t u (by simpa using hp) (by simpa using hq) h1 h2 h3 h4 (by omega)⟩
section
variable {P : Program} {X : Cx} {R : Type}
theorem settle_ok (hT : TabOK P X.T) {fz : List Nat} {nt : Nat} {r : R} {g0 : Gh} {a : Act} : ∀ (ops : List Oper) (e : DE) (h : Hp) (g : Gh) (K : DE → Hp → Option R), settleK X fz ops e h K = some r → Ext g0 g → Inv g h → SatD nt g e a → PendAll X.T fz g0 g a ops →
    ∃ e' h' g', K e' h' = some r ∧ g'.w = g.w ∧ Ext g0 g' ∧ Inv g' h' ∧ SatD nt g' e' a ∧ ∀ t, t ∉ dsts ops → lkD e' t = lkD e t
  | [], e, h, g, K, hk, he, hi, hs, _ => ⟨e, h, g, hk, rfl, he, hi, hs, fun _ _ => rfl⟩
  | o :: ops, e, h, g, K, hk, he, hi, hs, hp => by
    have skip : settleK X fz ops e h K = some r → ∃ e' h' g', K e' h' = some r ∧ g'.w = g.w ∧ Ext g0 g' ∧ Inv g' h' ∧ SatD nt g' e' a ∧ ∀ t, t ∉ dsts (o :: ops) → lkD e' t = lkD e t := fun hk => by
      obtain ⟨e', h', g', q1, q2, q3, q4, q5, q6⟩ := settle_ok hT ops e h g K hk he hi hs hp.tail
      refine ⟨e', h', g', q1, q2, q3, q4, q5, fun t ht => q6 t fun hh => ht ?_⟩
      unfold dsts at hh ⊢
      rw [List.filterMap_cons]
      cases o.dst with
      | none => exact hh
      | some u => exact List.mem_cons_of_mem _ hh
    unfold settleK at hk
    split at hk
    case h_2 => exact skip hk
    rename_i E t hkind hop hdst
    split at hk
    case h_2 => cases hk
    rename_i i hE
    obtain ⟨E', i', b, k1, k2, hpos, hv, hb0, hlim, cs, hcs, hcsz, hcell⟩ := hp.1 0 o t rfl hkind hdst
    rw [hop] at k1
    injection k1 with k1
    subst k1
    rw [hE] at k2
    injection k2 with k2
    subst k2
    let g1 : Gh := ⟨g.w, g.ms ++ [⟨b, i.sz, 1, 1⟩], g.L⟩
    have hmnew : g1.ms[h.length]? = some ⟨b, i.sz, 1, 1⟩ := by
      show (g.ms ++ _)[h.length]? = _
      rw [← hi.len]; simp
    have hmsold : ∀ (q : Nat) (m : Me), g.ms[q]? = some m → g1.ms[q]? = some m := fun q m hm => by
      show (g.ms ++ _)[q]? = some m
      rw [List.getElem?_append_left (List.getElem?_eq_some_iff.1 hm).1]; exact hm
    have hmcase : ∀ (q : Nat) (m : Me), g1.ms[q]? = some m → (q < h.length ∧ g.ms[q]? = some m) ∨ (q = h.length ∧ m = ⟨b, i.sz, 1, 1⟩) := fun q m hm => by
      have hm' : (g.ms ++ [(⟨b, i.sz, 1, 1⟩ : Me)])[q]? = some m := hm
      rcases Nat.lt_trichotomy q g.ms.length with hlt | heq | hgt
      · rw [List.getElem?_append_left hlt] at hm'
        exact .inl ⟨by rw [← hi.len]; exact hlt, hm'⟩
      · subst heq
        simp at hm'
        exact .inr ⟨hi.len, hm'.symm⟩
      · exfalso
        have := (List.getElem?_eq_some_iff.1 hm').1
        simp at this
        omega
    have heW : ExtW g g1 := ⟨rfl, rfl, rfl, Nat.le_refl _, hmsold, fun b hb => ⟨hb, rfl⟩⟩
    have he1 : Ext g0 g1 := ⟨⟨he.os, he.tape, he.output, he.size, fun q m hm => hmsold q m (he.ms q m hm), fun b' hb' => ⟨(he.fz b' hb').1, (he.fz b' hb').2⟩⟩, fun b' hb' => by
      obtain ⟨l1, l2⟩ := he.lim b' hb'
      refine ⟨⟨l1.1, l1.2.1, fun q m hm => ?_⟩, l2⟩
      rcases hmcase q m hm with ⟨_, hm⟩ | ⟨_, rfl⟩
      · exact l1.2.2 q m hm
      · have := hb'.1
        show b ≠ b'
        omega⟩
    have hhcase : ∀ (q : Nat) (ob : Ob), (dNew h E i.sz [i.zero])[q]? = some ob → (q < h.length ∧ h[q]? = some ob) ∨ (q = h.length ∧ ob = .row E i.sz [i.zero]) := fun q ob hob => by
      unfold dNew at hob
      rcases Nat.lt_trichotomy q h.length with hlt | heq | hgt
      · rw [List.getElem?_append_left hlt] at hob; exact .inl ⟨hlt, hob⟩
      · subst heq
        simp at hob
        exact .inr ⟨rfl, hob.symm⟩
      · exfalso
        have := (List.getElem?_eq_some_iff.1 hob).1
        simp at this
        omega
    have hi1 : Inv g1 (dNew h E i.sz [i.zero]) := by
      refine ⟨by show (g.ms ++ [_]).length = (h ++ [_]).length; simp [hi.len], fun q T1 s1 r1 hq => ?_, fun q q' T1 s1 T2 s2 r1 r2 m1 m2 h1 h2 h3 h4 h5 => ?_, hi.L, fun q m hm => ?_⟩
      · rcases hhcase q _ hq with ⟨hlt, hq⟩ | ⟨rfl, heq⟩
        · obtain ⟨m, cs', hm, hl⟩ := hi.live q T1 s1 r1 hq
          exact ⟨m, cs', hmsold q m hm, hl.blk, hl.hsz, hl.pos, hl.hL, hl.len, hl.le, hl.room, hl.row, fun i' row h2 j d h3 => by
            obtain ⟨v, h4, h5, h6⟩ := hl.cell i' row h2 j d h3
            exact ⟨v, h4, h5, h6.extW heW⟩⟩
        · injection heq with e1 e2 e3
          subst e1; subst e2; subst e3
          refine ⟨_, cs, hmnew, ⟨(0, 0), hcs, .inl rfl⟩, rfl, hpos, hlim.2.1, rfl, Nat.le_refl _, by show 1 * i.sz ≤ cs.size; omega, fun row hr => ?_, fun i' row h2 j d h3 => ?_⟩
          · simp at hr; subst hr; exact hT.zlen hE
          · cases i' with
            | zero =>
              simp at h2
              subst h2
              obtain ⟨v, c1, c2, c3⟩ := hcell j d h3
              exact ⟨v, by simpa using c1, c2, c3 g1⟩
            | succ i' => simp at h2
      · rcases hhcase q _ h1 with ⟨hlt, h1⟩ | ⟨rfl, heq⟩
        · rcases hmcase q m1 h3 with ⟨_, h3⟩ | ⟨hqq, _⟩
          · rcases hhcase q' _ h2 with ⟨hlt', h2⟩ | ⟨rfl, heq'⟩
            · rcases hmcase q' m2 h4 with ⟨_, h4⟩ | ⟨hqq, _⟩
              · exact hi.inj q q' T1 s1 T2 s2 r1 r2 m1 m2 h1 h2 h3 h4 h5
              · omega
            · exfalso
              rw [hmnew] at h4
              injection h4 with h4
              subst h4
              exact hlim.2.2 q m1 h3 h5
          · omega
        · rcases hhcase q' _ h2 with ⟨hlt', h2⟩ | ⟨rfl, heq'⟩
          · rcases hmcase q' m2 h4 with ⟨_, h4⟩ | ⟨hqq, _⟩
            · exfalso
              rw [hmnew] at h3
              injection h3 with h3
              subst h3
              exact hlim.2.2 q' m2 h4 h5.symm
            · omega
          · rfl
      · rcases hmcase q m hm with ⟨_, hm⟩ | ⟨_, rfl⟩
        · exact hi.msb q m hm
        · exact hlim.1
    have hs1 : SatD nt g1 ((t, .ptr h.length 0 0) :: e) a := by
      refine ⟨hs.size, hs.defers, fun u d hd => ?_⟩
      rw [lkD_cons] at hd
      by_cases htu : t = u
      · subst htu
        rw [if_pos rfl] at hd
        injection hd with hd
        subst hd
        rw [hv]
        have := Rep.ptr (g := g1) h.length 0 0 ⟨b, i.sz, 1, 1⟩ hmnew
        simpa using this
      · rw [if_neg htu] at hd
        exact (hs.get u d hd).extW heW
    have hp1 : PendAll X.T fz g0 g1 a ops := by
      refine ⟨fun q p u hq hk' hd' => ?_, hp.tail.2⟩
      obtain ⟨E2, i2, b2, k1, k2, k3, k4, k5, k6, k7⟩ := hp.1 (q + 1) p u (by simpa using hq) hk' hd'
      have hne := hp.2 0 (q + 1) o p t u rfl (by simpa using hq) hkind hk' hdst hd' (by omega)
      refine ⟨E2, i2, b2, k1, k2, k3, k4, k5, ⟨k6.1, k6.2.1, fun q' m hm => ?_⟩, k7⟩
      rcases hmcase q' m hm with ⟨_, hm⟩ | ⟨_, rfl⟩
      · exact k6.2.2 q' m hm
      · intro hh
        apply hne
        rw [hv, k4]
        have hh : b = b2 := hh
        rw [hh]
    obtain ⟨e', h', g', q1, q2, q3, q4, q5, q6⟩ := settle_ok hT ops _ _ g1 K hk he1 hi1 hs1 hp1
    refine ⟨e', h', g', q1, q2, q3, q4, q5, fun u hu => ?_⟩
    unfold dsts at hu
    rw [List.filterMap_cons, hdst] at hu
    simp only [List.mem_cons, not_or] at hu
    rw [q6 u hu.2, lkD_cons, if_neg (fun hh => hu.1 hh.symm)]
end
section
variable {P : Program} {X : Cx} {R : Type} {call : CallF} {nt : Nat} {fz bor : List Nat} {l : List Oper} {m : Nat} {e : DE} {h : Hp} {en : Nat → DE} {hp : Nat → Hp} {va : Nat → D} {HK : Nat → Hp} (tr : Tr X call nt fz bor l m e h en hp va HK)
include tr
theorem Far.end {g0 g : Gh} {L : Array Bool} {c : Nat} {a : Act} (hf : Far P X nt fz l m e va HK g0 L c a g) (hall : ∀ i, i < m → L[i]? = some true) : SatD nt g (en m) a ∧ Inv g (hp m) ∧ PendAll X.T fz g0 g a (l.take m) := by
  have htk : ∀ (q : Nat) (p : Oper), (l.take m)[q]? = some p → q < m ∧ l[q]? = some p := fun q p hq => by
    rw [List.getElem?_take] at hq
    split at hq
    · rename_i hlt; exact ⟨hlt, hq⟩
    · cases hq
  refine ⟨⟨hf.size, hf.defers, fun t d hd => ?_⟩, ?_, fun q p t hq hk hd => hf.pend q p t (hall q (htk q p hq).1) (htk q p hq).2 hk hd, fun q q2 p p2 t u hq hq2 hk hk2 hdt hdu hne => hf.dis q q2 p p2 t u (hall q (htk q p hq).1) (hall q2 (htk q2 p2 hq2).1) (htk q p hq).2 (htk q2 p2 hq2).2 hk hk2 hdt hdu hne⟩
  · by_cases htm : t ∈ dsts (l.take m)
    · unfold dsts at htm
      rw [List.mem_filterMap] at htm
      obtain ⟨p, hp1, hp2⟩ := htm
      obtain ⟨j, hj⟩ := List.getElem?_of_mem hp1
      rw [List.getElem?_take] at hj
      split at hj
      · rename_i hjm
        have hv := tr.val hjm hj hp2 hjm (Nat.le_refl _)
        rw [hd] at hv
        injection hv with hv
        rw [hv]
        exact hf.done j p t (hall j hjm) hj hp2
      · cases hj
    · have := tr.keep (t := t) 0 m (Nat.zero_le _) (Nat.le_refl _) fun q p h1 h2 hq hpd => htm (by
        unfold dsts
        rw [List.mem_filterMap]
        exact ⟨p, List.mem_of_getElem? (by rw [List.getElem?_take, if_pos h2]; exact hq), hpd⟩)
      rw [this, tr.e0] at hd
      exact hf.base t d htm hd
  · have e1 : (((List.range m).filter (isWat X.T fz l)).filter fun i => L.getD i false) = (List.range m).filter (isWat X.T fz l) := by
      rw [List.filter_eq_self]
      intro w hw
      have := (List.mem_filter.1 hw).1
      simp at this
      rw [Array.getD_eq_getD_getElem?, hall w this]; rfl
    have := hf.inv
    rw [e1, tr.hkc m (Nat.le_refl _)] at this
    exact this
theorem far_wp (hT : TabOK P X.T) (hc : CallOK P X call) {g0 : Gh} (hgl : GlOK g0 X.gl) {Q : Exit → Act → World → Prop}
    (htl : ∀ a g, Ext g0 g → SatD nt g (en m) a → Inv g (hp m) → PendAll X.T fz g0 g a (l.take m) → wpList P l.toArray Q (l.drop m) a g.w) : ∀ (fuel : Nat) (L : Array Bool) (c : Nat) (a : Act) (g : Gh), Far P X nt fz l m e va HK g0 L c a g → l.length ≤ fuel + c → wpAny P .any l.toArray Q fuel L a g.w := by
  have back : ∀ (k : Nat) (p : Oper), l[k]? = some p → ∀ x ∈ p.after.toList, Region.binds .any x = true → x.on < k := fun k p hp x hx hb => by
    have hreg := tr.reg
    simp only [regB, Bool.and_eq_true] at hreg
    have hk := (List.getElem?_eq_some_iff.1 hp).1
    have := (List.all_eq_true.1 hreg.2) k (by simp [hk])
    have hd : x.on ∈ deps l.toArray k := by
      unfold deps
      have hok : l.toArray[k]? = some p := by simpa using hp
      rw [hok]
      simp only [List.mem_map, List.mem_filter]
      exact ⟨x, ⟨hx, hb⟩, rfl⟩
    exact Nat.le_of_ble_eq_true ((List.all_eq_true.1 this) _ hd)
  -- what may come next
  have rdy : ∀ (L : Array Bool) (i : Nat), L.size = l.length → (i ∈ Region.ready .any l.toArray L ↔ ∃ o, l[i]? = some o ∧ L[i]? = some false ∧ ∀ x ∈ o.after.toList, Region.binds .any x = true → L[x.on]? = some true) := fun L i hL => by
    unfold Region.ready
    rw [List.mem_filter]
    constructor
    · rintro ⟨h1, h2⟩
      have hil : i < l.length := by simpa using h1
      have ho : l[i]? = some l[i] := List.getElem?_eq_getElem hil
      have hoA : l.toArray[i]? = some l[i] := by simpa using ho
      rw [hoA] at h2
      simp only [Option.map_some, Option.getD_some, Bool.and_eq_true, Bool.not_eq_true'] at h2
      refine ⟨l[i], ho, ?_, fun x hx hb => ?_⟩
      · obtain ⟨b, hLi⟩ : ∃ b, L[i]? = some b := ⟨_, Array.getElem?_eq_getElem (by omega)⟩
        have := h2.1
        rw [Array.getD_eq_getD_getElem?, hLi] at this
        rw [hLi]
        simp at this
        rw [this]
      · have := (Array.all_eq_true_iff_forall_mem.1 h2.2) x (by simpa using hx)
        rw [hb] at this
        simp only [Bool.not_true, Bool.false_or] at this
        rw [Array.getD_eq_getD_getElem?] at this
        cases hq : L[x.on]? with
        | none => rw [hq] at this; cases this
        | some b => rw [hq] at this; simp at this; rw [this]
    · rintro ⟨o, ho, hLi, hd⟩
      have hil := (List.getElem?_eq_some_iff.1 ho).1
      refine ⟨by simpa using hil, ?_⟩
      have hoA : l.toArray[i]? = some o := by simpa using ho
      rw [hoA]
      simp only [Option.map_some, Option.getD_some, Bool.and_eq_true, Bool.not_eq_true']
      refine ⟨by rw [Array.getD_eq_getD_getElem?, hLi]; rfl, Array.all_eq_true_iff_forall_mem.2 fun x hx => ?_⟩
      cases hb : Region.binds .any x with
      | false => rfl
      | true =>
        simp only [Bool.not_true, Bool.false_or]
        rw [Array.getD_eq_getD_getElem?, hd x (by simpa using hx) hb]; rfl
  intro fuel
  induction fuel with
  | zero =>
    intro L c a g hf hfu
    have hcm : c ≤ m := by
      rw [← hf.cnt]
      have := List.length_filter_le (fun i => L.getD i false) (List.range m)
      simpa using this
    have hml := tr.ml
    have hce : c = m := by omega
    have hall : ∀ i, i < m → L[i]? = some true := fun i hi => by
      have := all_of_count (fun i => L.getD i false) m (by rw [hf.cnt, hce]) i hi
      simp only [Array.getD_eq_getD_getElem?] at this
      cases hq : L[i]? with
      | none => rw [hq] at this; cases this
      | some b => rw [hq] at this; simp at this; rw [this]
    obtain ⟨hs, hinv, hpa⟩ := hf.end tr hall
    refine wpAny_tail tr.reg tr.tail (l.drop m) m 0 L a g.w (Nat.le_refl _) rfl hf.Lsz (fun i hi => ?_) (by simp; omega) (htl a g hf.ext hs hinv hpa)
    rw [hall i (by omega), decide_eq_true (by omega)]
  | succ fuel ih =>
    intro L c a g hf hfu
    by_cases hce : c = m
    · have hall : ∀ i, i < m → L[i]? = some true := fun i hi => by
        have := all_of_count (fun i => L.getD i false) m (by rw [hf.cnt, hce]) i hi
        simp only [Array.getD_eq_getD_getElem?] at this
        cases hq : L[i]? with
        | none => rw [hq] at this; cases this
        | some b => rw [hq] at this; simp at this; rw [this]
      obtain ⟨hs, hinv, hpa⟩ := hf.end tr hall
      refine wpAny_tail tr.reg tr.tail (l.drop m) m (fuel + 1) L a g.w (Nat.le_refl _) rfl hf.Lsz (fun i hi => ?_) (by simp; omega) (htl a g hf.ext hs hinv hpa)
      rcases Nat.lt_or_ge i m with hlt | hge
      · rw [hall i hlt, decide_eq_true hlt]
      · obtain ⟨b, hLi⟩ : ∃ b, L[i]? = some b := ⟨_, Array.getElem?_eq_getElem (by rw [hf.Lsz]; exact hi)⟩
        rw [hLi, decide_eq_false (by omega)]
        cases b with
        | false => rfl
        | true =>
          have := hf.main i hLi
          omega
    · -- some of the first are still to come
      have hne : ∃ i, i < m ∧ L[i]? = some false := by
        apply Classical.byContradiction
        intro hno
        apply hce
        rw [← hf.cnt]
        have : (List.range m).filter (fun i => L.getD i false) = List.range m := by
          rw [List.filter_eq_self]
          intro i hi
          simp at hi
          obtain ⟨b, hLi⟩ : ∃ b, L[i]? = some b := ⟨_, Array.getElem?_eq_getElem (by rw [hf.Lsz]; have := tr.ml; omega)⟩
          rw [Array.getD_eq_getD_getElem?, hLi]
          cases b with
          | true => rfl
          | false => exact absurd ⟨i, hi, hLi⟩ hno
        rw [this]; simp
      have hmin : ∃ i, i ∈ Region.ready .any l.toArray L := by
        obtain ⟨i, hi, hLi⟩ := hne
        have key : ∀ (n i : Nat), i < n → i < m → L[i]? = some false → ∃ i, i ∈ Region.ready .any l.toArray L := by
          intro n
          induction n with
          | zero => intro i h; omega
          | succ n ihn =>
            intro i hn hi hLi
            obtain ⟨o, ho⟩ := tr.get hi
            by_cases hd : ∀ x ∈ o.after.toList, Region.binds .any x = true → L[x.on]? = some true
            · exact ⟨i, (rdy L i hf.Lsz).2 ⟨o, ho, hLi, hd⟩⟩
            · simp only [Classical.not_forall] at hd
              obtain ⟨x, hx, hb, hnt⟩ := hd
              have hlt := back i o ho x hx hb
              obtain ⟨b, hLx⟩ : ∃ b, L[x.on]? = some b := ⟨_, Array.getElem?_eq_getElem (by rw [hf.Lsz]; have := tr.ml; omega)⟩
              refine ihn x.on (by omega) (by omega) ?_
              cases b with
              | false => exact hLx
              | true => exact absurd hLx hnt
        exact key (i + 1) i (by omega) hi hLi
      refine ⟨fun hr => ?_, fun i hir => ?_⟩
      · obtain ⟨i, hi⟩ := hmin
        rw [hr] at hi
        cases hi
      · obtain ⟨o, ho, hLi, hd⟩ := (rdy L i hf.Lsz).1 hir
        have him : i < m := by
          rcases Nat.lt_or_ge i m with hlt | hge
          · exact hlt
          · exfalso
            obtain ⟨j, hj, hLj⟩ := hne
            have hil := (List.getElem?_eq_some_iff.1 ho).1
            have htB := (List.all_eq_true.1 tr.tail) i (by simp [hil])
            simp only [Bool.or_eq_true] at htB
            rcases htB with hb | hb
            · have := Nat.le_of_ble_eq_true hb; omega
            · have hmem := memB_iff.1 ((List.all_eq_true.1 hb) j (by simp; omega))
              unfold deps at hmem
              have hoA : l.toArray[i]? = some o := by simpa using ho
              rw [hoA] at hmem
              simp only [List.mem_map, List.mem_filter] at hmem
              obtain ⟨x, ⟨hx, hbx⟩, hxj⟩ := hmem
              have := hd x hx hbx
              rw [hxj, hLj] at this
              cases this
        have hst : Step P l.toArray Q o a g (wpAny P .any l.toArray Q fuel (L.setIfInBounds i true)) := hf.step tr hT hc hgl him ho hLi hd fun a' g' hf' => ih _ (c + 1) a' g' hf' (by omega)
        unfold wpOp
        have hoA : l.toArray[i]? = some o := by simpa using ho
        rw [hoA]
        simp only []
        rcases hst with ⟨hw, hwp⟩ | ⟨hw, hnx⟩
        · rw [if_pos hw]; exact .inl hwp
        · rw [if_neg (by simp [hw])]; exact hnx
end

section
variable {P : Program} {X : Cx} {R : Type}
theorem drawK_ok (hT : TabOK P X.T) (hm : P.follows .mixedOrders = true) {call : CallF} (hc : CallOK P X call) {nt : Nat} {fz bor : List Nat} {m : Nat} {l : List Oper} {e : DE} {h : Hp} {K : DE → Hp → Option R} {r : R} (hd : drawK X call nt fz bor m l e h K = some r)
    {Q : Exit → Act → World → Prop} {g : Gh} {a : Act} (hi : Inv g h) (hgl : GlOK g X.gl) (hs : SatD nt g e a)
    (hn : ∀ e' h' g' a', K e' h' = some r → (∀ t, t ∉ dsts l → lkD e' t = lkD e t) → Ext g g' → Inv g' h' → SatD nt g' e' a' → Q .normal a' g'.w) {id : Nat} : (Code.region id l.toArray true).wp P Q a g.w := by
  obtain ⟨en, hp, va, HK, tr, hk⟩ := drawK_tr hd
  refine wp_region_any hm ?_
  have hg0 := g.draw_ext
  have hfar : Far P X nt fz l m e va HK g.draw (Array.replicate l.length false) 0 a g.draw := by
    have hL : ∀ i, (Array.replicate l.length false)[i]? ≠ some true := fun i hi => by
      rw [Array.getElem?_replicate] at hi
      split at hi <;> simp at hi
    have hgd : ∀ i, (Array.replicate l.length false).getD i false = false := fun i => by
      rw [Array.getD_eq_getD_getElem?, Array.getElem?_replicate]
      split <;> rfl
    refine ⟨hs.size, hs.defers, by simp, fun i o hi => absurd hi (hL i), fun i hi => absurd hi (hL i), ?_, Ext.refl _, ?_, fun t d _ hd => (hs.get t d hd).ext hg0, fun i o t hi => absurd hi (hL i), fun i o t hi => absurd hi (hL i), fun i j o p t u hi => absurd hi (hL i)⟩
    · have : (List.range m).filter (fun i => (Array.replicate l.length false).getD i false) = [] := by
        rw [List.filter_eq_nil_iff]
        intro i _
        rw [hgd]; simp
      rw [this]; rfl
    · have : ((List.range m).filter (isWat X.T fz l)).filter (fun i => (Array.replicate l.length false).getD i false) = [] := by
        rw [List.filter_eq_nil_iff]
        intro i _
        rw [hgd]; simp
      rw [this]
      simp only [List.length_nil, tr.hk0]
      exact Gh.draw_inv hi
  have := far_wp tr hT hc (hgl.ext hg0) (Q := Q) (fun a' g' he hs' hinv hpa => ?_) l.length (Array.replicate l.length false) 0 a g.draw hfar (by omega)
  · rw [List.size_toArray]
    exact this
  · obtain ⟨e1, h1, g1, hk1, hw1, he1, hi1, hs1, hlk1⟩ := settle_ok hT (l.take m) (en m) (hp m) g' _ hk he hinv hs' hpa
    rw [← hw1]
    refine seqK_ok hT hc (l.drop m) e1 h1 K hk1 g1 a' hi1 ((hgl.ext hg0).ext he1) hs1 fun e' h' g'' a'' q1 h2 h3 h4 h5 => hn e' h' g'' a'' q1 (fun t ht => ?_) ((hg0.trans he1).trans h3) h4 h5
    have hsplit : dsts l = dsts (l.take m) ++ dsts (l.drop m) := by
      unfold dsts
      rw [← List.filterMap_append, List.take_append_drop]
    rw [hsplit, List.mem_append, not_or] at ht
    rw [h2 t ht.2, hlk1 t ht.1]
    have := tr.keep (t := t) 0 m (Nat.zero_le _) (Nat.le_refl _) fun q p q1 q2 hq hpd => ht.1 (by
      unfold dsts
      rw [List.mem_filterMap]
      exact ⟨p, List.mem_of_getElem? (by rw [List.getElem?_take, if_pos q2]; exact hq), hpd⟩)
    rw [this, tr.e0]
end
end Go.Pi
