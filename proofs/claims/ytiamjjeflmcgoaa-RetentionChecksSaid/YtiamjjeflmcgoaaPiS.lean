/- A statement whose order is open, whole. No program is named here. -/
import Derived.Test.YtiamjjeflmcgoaaPiR
set_option linter.unusedSimpArgs false
set_option linter.unusedVariables false
set_option linter.unnecessarySimpa false
namespace Go.Pi
open Go.Eng

theorem all_of_count (p : Nat → Bool) : ∀ (m : Nat), ((List.range m).filter p).length = m → ∀ i, i < m → p i = true := fun m h i hi => by
  have h1 : (List.range m).filter p = List.range m := by
    apply List.filter_eq_self.2
    intro a ha
    rcases Nat.lt_or_ge ((List.range m).filter p).length (List.range m).length with hlt | hge
    · simp at hlt; omega
    · cases hp : p a with
      | true => rfl
      | false =>
        exfalso
        have : ((List.range m).filter p).length < (List.range m).length := by
          apply List.length_filter_lt_length_iff_exists.2
          exact ⟨a, ha, by simp [hp]⟩
        omega
  exact List.filter_eq_self.1 h1 i (by simp [hi])

section
variable {P : Program} {X : Cx} {R : Type} {call : CallF} {nt : Nat} {fz bor : List Nat} {l : List Oper} {m : Nat} {e : DE} {h : Hp} {en : Nat → DE} {hp : Nat → Hp} {va : Nat → D} {HK : Nat → Hp} (tr : Tr X call nt fz bor l m e h en hp va HK)
include tr
theorem Far.end {g0 g : Gh} {L : Array Bool} {c : Nat} {a : Act} (hf : Far P X nt fz l m e va HK g0 L c a g) (hall : ∀ i, i < m → L[i]? = some true) : SatD nt g (en m) a ∧ Inv g (hp m) := by
  refine ⟨⟨hf.size, hf.defers, fun t d hd => ?_⟩, ?_⟩
  · by_cases htm : t ∈ dsts (l.take m)
    · unfold dsts at htm
      rw [List.mem_filterMap] at htm
      obtain ⟨p, hp1, hp2⟩ := htm
      obtain ⟨j, hj⟩ := List.getElem?_of_mem hp1
      rw [List.getElem?_take] at hj
      split at hj
      · rename_i hjm
        have hv := tr.val hjm hj hp2 hjm (Nat.le_refl _)
        rw [hd] at hv
        injection hv with hv
        rw [hv]
        exact hf.done j p t (hall j hjm) hj hp2
      · cases hj
    · have := tr.keep (t := t) 0 m (Nat.zero_le _) (Nat.le_refl _) fun q p h1 h2 hq hpd => htm (by
        unfold dsts
        rw [List.mem_filterMap]
        exact ⟨p, List.mem_of_getElem? (by rw [List.getElem?_take, if_pos h2]; exact hq), hpd⟩)
      rw [this, tr.e0] at hd
      exact hf.base t d htm hd
  · have e1 : (((List.range m).filter (isWat X.T fz l)).filter fun i => L.getD i false) = (List.range m).filter (isWat X.T fz l) := by
      rw [List.filter_eq_self]
      intro w hw
      have := (List.mem_filter.1 hw).1
      simp at this
      rw [Array.getD_eq_getD_getElem?, hall w this]; rfl
    have := hf.inv
    rw [e1, tr.hkc m (Nat.le_refl _)] at this
    exact this
theorem far_wp (hT : TabOK P X.T) (hc : CallOK P X call) {g0 : Gh} (hgl : GlOK g0 X.gl) {Q : Exit → Act → World → Prop}
    (htl : ∀ a g, Ext g0 g → SatD nt g (en m) a → Inv g (hp m) → wpList P l.toArray Q (l.drop m) a g.w) : ∀ (fuel : Nat) (L : Array Bool) (c : Nat) (a : Act) (g : Gh), Far P X nt fz l m e va HK g0 L c a g → l.length ≤ fuel + c → wpAny P .any l.toArray Q fuel L a g.w := by
  have back : ∀ (k : Nat) (p : Oper), l[k]? = some p → ∀ x ∈ p.after.toList, Region.binds .any x = true → x.on < k := fun k p hp x hx hb => by
    have hreg := tr.reg
    simp only [regB, Bool.and_eq_true] at hreg
    have hk := (List.getElem?_eq_some_iff.1 hp).1
    have := (List.all_eq_true.1 hreg.2) k (by simp [hk])
    have hd : x.on ∈ deps l.toArray k := by
      unfold deps
      have hok : l.toArray[k]? = some p := by simpa using hp
      rw [hok]
      simp only [List.mem_map, List.mem_filter]
      exact ⟨x, ⟨hx, hb⟩, rfl⟩
    exact Nat.le_of_ble_eq_true ((List.all_eq_true.1 this) _ hd)
  -- what may come next
  have rdy : ∀ (L : Array Bool) (i : Nat), L.size = l.length → (i ∈ Region.ready .any l.toArray L ↔ ∃ o, l[i]? = some o ∧ L[i]? = some false ∧ ∀ x ∈ o.after.toList, Region.binds .any x = true → L[x.on]? = some true) := fun L i hL => by
    unfold Region.ready
    rw [List.mem_filter]
    constructor
    · rintro ⟨h1, h2⟩
      have hil : i < l.length := by simpa using h1
      have ho : l[i]? = some l[i] := List.getElem?_eq_getElem hil
      have hoA : l.toArray[i]? = some l[i] := by simpa using ho
      rw [hoA] at h2
      simp only [Option.map_some, Option.getD_some, Bool.and_eq_true, Bool.not_eq_true'] at h2
      refine ⟨l[i], ho, ?_, fun x hx hb => ?_⟩
      · obtain ⟨b, hLi⟩ : ∃ b, L[i]? = some b := ⟨_, Array.getElem?_eq_getElem (by omega)⟩
        have := h2.1
        rw [Array.getD_eq_getD_getElem?, hLi] at this
        rw [hLi]
        simp at this
        rw [this]
      · have := (Array.all_eq_true_iff_forall_mem.1 h2.2) x (by simpa using hx)
        rw [hb] at this
        simp only [Bool.not_true, Bool.false_or] at this
        rw [Array.getD_eq_getD_getElem?] at this
        cases hq : L[x.on]? with
        | none => rw [hq] at this; cases this
        | some b => rw [hq] at this; simp at this; rw [this]
    · rintro ⟨o, ho, hLi, hd⟩
      have hil := (List.getElem?_eq_some_iff.1 ho).1
      refine ⟨by simpa using hil, ?_⟩
      have hoA : l.toArray[i]? = some o := by simpa using ho
      rw [hoA]
      simp only [Option.map_some, Option.getD_some, Bool.and_eq_true, Bool.not_eq_true']
      refine ⟨by rw [Array.getD_eq_getD_getElem?, hLi]; rfl, Array.all_eq_true_iff_forall_mem.2 fun x hx => ?_⟩
      cases hb : Region.binds .any x with
      | false => rfl
      | true =>
        simp only [Bool.not_true, Bool.false_or]
        rw [Array.getD_eq_getD_getElem?, hd x (by simpa using hx) hb]; rfl
  intro fuel
  induction fuel with
  | zero =>
    intro L c a g hf hfu
    have hcm : c ≤ m := by
      rw [← hf.cnt]
      have := List.length_filter_le (fun i => L.getD i false) (List.range m)
      simpa using this
    have hml := tr.ml
    have hce : c = m := by omega
    have hall : ∀ i, i < m → L[i]? = some true := fun i hi => by
      have := all_of_count (fun i => L.getD i false) m (by rw [hf.cnt, hce]) i hi
      simp only [Array.getD_eq_getD_getElem?] at this
      cases hq : L[i]? with
      | none => rw [hq] at this; cases this
      | some b => rw [hq] at this; simp at this; rw [this]
    obtain ⟨hs, hinv⟩ := hf.end tr hall
    refine wpAny_tail tr.reg tr.tail (l.drop m) m 0 L a g.w (Nat.le_refl _) rfl hf.Lsz (fun i hi => ?_) (by simp; omega) (htl a g hf.ext hs hinv)
    rw [hall i (by omega), decide_eq_true (by omega)]
  | succ fuel ih =>
    intro L c a g hf hfu
    by_cases hce : c = m
    · have hall : ∀ i, i < m → L[i]? = some true := fun i hi => by
        have := all_of_count (fun i => L.getD i false) m (by rw [hf.cnt, hce]) i hi
        simp only [Array.getD_eq_getD_getElem?] at this
        cases hq : L[i]? with
        | none => rw [hq] at this; cases this
        | some b => rw [hq] at this; simp at this; rw [this]
      obtain ⟨hs, hinv⟩ := hf.end tr hall
      refine wpAny_tail tr.reg tr.tail (l.drop m) m (fuel + 1) L a g.w (Nat.le_refl _) rfl hf.Lsz (fun i hi => ?_) (by simp; omega) (htl a g hf.ext hs hinv)
      rcases Nat.lt_or_ge i m with hlt | hge
      · rw [hall i hlt, decide_eq_true hlt]
      · obtain ⟨b, hLi⟩ : ∃ b, L[i]? = some b := ⟨_, Array.getElem?_eq_getElem (by rw [hf.Lsz]; exact hi)⟩
        rw [hLi, decide_eq_false (by omega)]
        cases b with
        | false => rfl
        | true =>
          have := hf.main i hLi
          omega
    · -- some of the first are still to come
      have hne : ∃ i, i < m ∧ L[i]? = some false := by
        apply Classical.byContradiction
        intro hno
        apply hce
        rw [← hf.cnt]
        have : (List.range m).filter (fun i => L.getD i false) = List.range m := by
          rw [List.filter_eq_self]
          intro i hi
          simp at hi
          obtain ⟨b, hLi⟩ : ∃ b, L[i]? = some b := ⟨_, Array.getElem?_eq_getElem (by rw [hf.Lsz]; have := tr.ml; omega)⟩
          rw [Array.getD_eq_getD_getElem?, hLi]
          cases b with
          | true => rfl
          | false => exact absurd ⟨i, hi, hLi⟩ hno
        rw [this]; simp
      have hmin : ∃ i, i ∈ Region.ready .any l.toArray L := by
        obtain ⟨i, hi, hLi⟩ := hne
        have key : ∀ (n i : Nat), i < n → i < m → L[i]? = some false → ∃ i, i ∈ Region.ready .any l.toArray L := by
          intro n
          induction n with
          | zero => intro i h; omega
          | succ n ihn =>
            intro i hn hi hLi
            obtain ⟨o, ho⟩ := tr.get hi
            by_cases hd : ∀ x ∈ o.after.toList, Region.binds .any x = true → L[x.on]? = some true
            · exact ⟨i, (rdy L i hf.Lsz).2 ⟨o, ho, hLi, hd⟩⟩
            · simp only [Classical.not_forall] at hd
              obtain ⟨x, hx, hb, hnt⟩ := hd
              have hlt := back i o ho x hx hb
              obtain ⟨b, hLx⟩ : ∃ b, L[x.on]? = some b := ⟨_, Array.getElem?_eq_getElem (by rw [hf.Lsz]; have := tr.ml; omega)⟩
              refine ihn x.on (by omega) (by omega) ?_
              cases b with
              | false => exact hLx
              | true => exact absurd hLx hnt
        exact key (i + 1) i (by omega) hi hLi
      refine ⟨fun hr => ?_, fun i hir => ?_⟩
      · obtain ⟨i, hi⟩ := hmin
        rw [hr] at hi
        cases hi
      · obtain ⟨o, ho, hLi, hd⟩ := (rdy L i hf.Lsz).1 hir
        have him : i < m := by
          rcases Nat.lt_or_ge i m with hlt | hge
          · exact hlt
          · exfalso
            obtain ⟨j, hj, hLj⟩ := hne
            have hil := (List.getElem?_eq_some_iff.1 ho).1
            have htB := (List.all_eq_true.1 tr.tail) i (by simp [hil])
            simp only [Bool.or_eq_true] at htB
            rcases htB with hb | hb
            · have := Nat.le_of_ble_eq_true hb; omega
            · have hmem := memB_iff.1 ((List.all_eq_true.1 hb) j (by simp; omega))
              unfold deps at hmem
              have hoA : l.toArray[i]? = some o := by simpa using ho
              rw [hoA] at hmem
              simp only [List.mem_map, List.mem_filter] at hmem
              obtain ⟨x, ⟨hx, hbx⟩, hxj⟩ := hmem
              have := hd x hx hbx
              rw [hxj, hLj] at this
              cases this
        have hst : Step P l.toArray Q o a g (wpAny P .any l.toArray Q fuel (L.setIfInBounds i true)) := hf.step tr hT hc hgl him ho hLi hd fun a' g' hf' => ih _ (c + 1) a' g' hf' (by omega)
        unfold wpOp
        have hoA : l.toArray[i]? = some o := by simpa using ho
        rw [hoA]
        simp only []
        rcases hst with ⟨hw, hwp⟩ | ⟨hw, hnx⟩
        · rw [if_pos hw]; exact .inl hwp
        · rw [if_neg (by simp [hw])]; exact hnx
end

section
variable {P : Program} {X : Cx} {R : Type}
theorem drawK_ok (hT : TabOK P X.T) (hm : P.follows .mixedOrders = true) {call : CallF} (hc : CallOK P X call) {nt : Nat} {fz bor : List Nat} {m : Nat} {l : List Oper} {e : DE} {h : Hp} {K : DE → Hp → Option R} {r : R} (hd : drawK X call nt fz bor m l e h K = some r)
    {Q : Exit → Act → World → Prop} {g : Gh} {a : Act} (hi : Inv g h) (hgl : GlOK g X.gl) (hs : SatD nt g e a)
    (hn : ∀ e' h' g' a', K e' h' = some r → (∀ t, t ∉ dsts l → lkD e' t = lkD e t) → Ext g g' → Inv g' h' → SatD nt g' e' a' → Q .normal a' g'.w) {id : Nat} : (Code.region id l.toArray true).wp P Q a g.w := by
  obtain ⟨en, hp, va, HK, tr, hk⟩ := drawK_tr hd
  refine wp_region_any hm ?_
  have hg0 := g.draw_ext
  have hfar : Far P X nt fz l m e va HK g.draw (Array.replicate l.length false) 0 a g.draw := by
    have hL : ∀ i, (Array.replicate l.length false)[i]? ≠ some true := fun i hi => by
      rw [Array.getElem?_replicate] at hi
      split at hi <;> simp at hi
    have hgd : ∀ i, (Array.replicate l.length false).getD i false = false := fun i => by
      rw [Array.getD_eq_getD_getElem?, Array.getElem?_replicate]
      split <;> rfl
    refine ⟨hs.size, hs.defers, by simp, fun i o hi => absurd hi (hL i), fun i hi => absurd hi (hL i), ?_, Ext.refl _, ?_, fun t d _ hd => (hs.get t d hd).ext hg0, fun i o t hi => absurd hi (hL i)⟩
    · have : (List.range m).filter (fun i => (Array.replicate l.length false).getD i false) = [] := by
        rw [List.filter_eq_nil_iff]
        intro i _
        rw [hgd]; simp
      rw [this]; rfl
    · have : ((List.range m).filter (isWat X.T fz l)).filter (fun i => (Array.replicate l.length false).getD i false) = [] := by
        rw [List.filter_eq_nil_iff]
        intro i _
        rw [hgd]; simp
      rw [this]
      simp only [List.length_nil, tr.hk0]
      exact Gh.draw_inv hi
  have := far_wp tr hT hc (hgl.ext hg0) (Q := Q) (fun a' g' he hs' hinv => ?_) l.length (Array.replicate l.length false) 0 a g.draw hfar (by omega)
  · rw [List.size_toArray]
    exact this
  · refine seqK_ok hT hc (l.drop m) (en m) (hp m) K hk g' a' hinv ((hgl.ext hg0).ext he) hs' fun e' h' g'' a'' h1 h2 h3 h4 h5 => hn e' h' g'' a'' h1 (fun t ht => ?_) ((hg0.trans he).trans h3) h4 h5
    have hsplit : dsts l = dsts (l.take m) ++ dsts (l.drop m) := by
      unfold dsts
      rw [← List.filterMap_append, List.take_append_drop]
    rw [hsplit, List.mem_append, not_or] at ht
    rw [h2 t ht.2]
    have := tr.keep (t := t) 0 m (Nat.zero_le _) (Nat.le_refl _) fun q p q1 q2 hq hpd => ht.1 (by
      unfold dsts
      rw [List.mem_filterMap]
      exact ⟨p, List.mem_of_getElem? (by rw [List.getElem?_take, if_pos q2]; exact hq), hpd⟩)
    rw [this, tr.e0]
end
end Go.Pi
