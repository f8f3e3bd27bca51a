/- A statement whose order is open, of which some operations turn what others have made (an append in place): facts that last until then. No program is named here. -/
import Derived.Test.YtfjbbeleejnbgaaEngF
set_option linter.unusedSimpArgs false
set_option linter.unusedVariables false
namespace Go.Eng
section og
variable {P : Program} {n : Nat} {Q : Exit → Act → World → Prop} {R : Gw → Gw → Prop} {J : Gw → Prop}
/-- What an operation's fact speaks of: its slot; for a store, the slot of the address. -/
def slw (o : Oper) (a : Act) : Value := match o.dst with
  | some d => a.tmps.getD d undef
  | none => match o.op with
    | .store _ (.tmp t) _ => a.tmps.getD t undef
    | _ => undef
def viewE (o : Oper) (e : Env) : Option Value := match o.dst with
  | some d => lk e d
  | none => match o.op with
    | .store _ (.tmp t) _ => lk e t
    | _ => some undef
theorem Sat.slw {n : Nat} {e : Env} {a : Act} {o : Oper} {u : Value} (h : Sat n e a) (hu : viewE o e = some u) : Eng.slw o a = u := by
  unfold viewE at hu
  unfold Eng.slw
  cases hd : o.dst with
  | some d => rw [hd] at hu; exact h.get d u hu
  | none =>
    rw [hd] at hu
    revert hu
    generalize o.op = op
    intro hu
    cases op <;> first | (injection hu) | skip
    rename_i t x y
    cases x <;> first | (injection hu) | skip
    exact h.get _ u hu
/-- No slot of a store's address is written behind it. -/
def stB (l : List Oper) : Bool := (List.range l.length).all fun j => match l[j]? with
  | some o => match o.dst with
    | some _ => true
    | none => match o.op with
      | .store _ (.tmp t) _ => (List.range l.length).all fun k => match l[k]? with
        | some p => match p.dst with
          | some d => !(Nat.beq d t) || memB k (deps l.toArray j)
          | none => true
        | none => true
      | _ => true
  | none => true
theorem slw_keep {l : List Oper} (hst : stB l = true) (hdis : distinctB l = true) {j k : Nat} {o p : Oper} (hj : l[j]? = some o) (hk : l[k]? = some p) (hjk : k ≠ j) (hd : k ∉ deps l.toArray j) (a : Act) (v : Value) : slw o (a.put p.dst v) = slw o a := by
  have key : ∀ t, (∀ d', p.dst = some d' → d' ≠ t) → (a.put p.dst v).tmps.getD t undef = a.tmps.getD t undef := by
    intro t ht
    cases hp : p.dst with
    | none => rfl
    | some d' =>
      simp only [Act.put, Array.getD_eq_getD_getElem?]
      rw [Array.getElem?_setIfInBounds_ne (ht d' hp)]
  unfold slw
  cases hdj : o.dst with
  | some d =>
    exact key d fun d' hp hne => by
      subst hne
      exact hjk (distinct_spec hdis hk hj hp hdj)
  | none =>
    have hjl : j < l.length := (List.getElem?_eq_some_iff.1 hj).1
    have hkl : k < l.length := (List.getElem?_eq_some_iff.1 hk).1
    have h1 := (List.all_eq_true.1 hst) j (by simp [hjl])
    rw [hj] at h1
    simp only [hdj] at h1
    simp only []
    revert h1
    generalize o.op = op
    intro h1
    cases op <;> try rfl
    rename_i ty x y
    cases x <;> try rfl
    rename_i t
    refine key t fun d' hp hne => ?_
    subst hne
    have h2 := (List.all_eq_true.1 h1) k (by simp [hkl])
    rw [hk] at h2
    simp only [hp, Bool.or_eq_true, Bool.not_eq_true'] at h2
    rcases h2 with h2 | h2
    · rw [Nat.beq_refl] at h2; cases h2
    · exact hd (memB_iff.1 h2)
def StepOK3 (P : Program) (ops : Array Oper) (Q : Exit → Act → World → Prop) (R : Gw → Gw → Prop) (J : Gw → Prop) (Tk : Fact) (o : Oper) (a : Act) (g : Gw) : Prop :=
  (Region.wanted o (yielded ops a.tmps) = true ∧ o.wp P a g.w (fun a' w' => ∃ g' v, g'.w = w' ∧ R g g' ∧ J g' ∧ a' = a.put o.dst v ∧ Tk (slw o a') g') Q) ∨ (Region.wanted o (yielded ops a.tmps) = false ∧ R g g ∧ Tk (slw o (a.put o.dst undef)) g)
structure OgInv3 (n : Nat) (l : List Oper) (m : Nat) (R : Gw → Gw → Prop) (J : Gw → Prop) (T : Nat → Fact) (kl : Nat → List Nat) (I : Gw → Prop) (kI : List Nat) (e0 : Env) (g0 : Gw) (L : Array Bool) (a : Act) (g : Gw) : Prop where
  ev : R g0 g
  j : J g
  sat : Sat n e0 a
  facts : ∀ k o, k < m → L[k]? = some true → (∀ i ∈ kl k, ¬ L[i]? = some true) → l[k]? = some o → T k (slw o a) g
  ini : (∀ i ∈ kI, ¬ L[i]? = some true) → I g
  cl : ∀ k, L[k]? = some true → ∀ j ∈ deps l.toArray k, L[j]? = some true

/-- The operations before the tail, in whatever order; then the tail. -/
theorem wpAny_ogk {l : List Oper} {m : Nat} {T : Nat → Fact} {S : Nat → Gw → Gw → Prop} {kl : Nat → List Nat} {I : Gw → Prop} {kI : List Nat} {e0 : Env} {g0 : Gw} (hR : Pre R) (hreg : regB n l = true) (ht : tailB m l = true) (hst : stB l = true) (hm : m ≤ l.length) (he : ∀ d ∈ dsts (l.take m), lk e0 d = none) (hSR : ∀ k g g', S k g g' → R g g') (hIst : ∀ j, j < m → j ∉ kI → ∀ g g', I g → S j g g' → J g' → I g') (hstab : ∀ k j, k < m → j < m → j ≠ k → j ∉ deps l.toArray k → j ∉ kl k → ∀ v g g', T k v g → S j g g' → J g' → T k v g')
    (hstep : ∀ k o, k < m → l[k]? = some o → ∀ a g, R g0 g → J g → Sat n e0 a → (∀ j ∈ deps l.toArray k, (∀ i ∈ kl j, i = k ∨ k ∈ deps l.toArray i) → ∀ oj, l[j]? = some oj → T j (slw oj a) g) → ((∀ i ∈ kI, i = k ∨ k ∈ deps l.toArray i) → I g) → StepOK3 P l.toArray Q (S k) J (T k) o a g)
    (hfin : ∀ a g, R g0 g → J g → Sat n e0 a → (∀ k o, k < m → kl k = [] → l[k]? = some o → T k (slw o a) g) → (kI = [] → I g) → wpList P l.toArray Q (l.drop m) a g.w) :
    ∀ (fuel : Nat) (L : Array Bool) (a : Act) (g : Gw), L.toList.count false ≤ fuel → OgInv3 n l m R J T kl I kI e0 g0 L a g → L.size = l.length → (∀ i, m ≤ i → i < l.length → L[i]? = some false) → wpAny P .any l.toArray Q fuel L a g.w := by
  have hreg' := hreg
  simp only [regB, Bool.and_eq_true] at hreg'
  obtain ⟨⟨hdis, hlt⟩, hedge⟩ := hreg'
  intro fuel
  induction fuel with
  | zero =>
    intro L a g hc hI hs hL
    have hml : m = l.length := by
      rcases Nat.lt_or_ge m l.length with hh | hh
      · exfalso
        have := hL m (Nat.le_refl _) hh
        have hmem : false ∈ L.toList := by
          have := Array.mem_of_getElem? this
          simpa using this
        have := List.count_pos_iff.2 hmem
        omega
      · omega
    have hall : ∀ i, i < l.length → L[i]? = some (decide (i < m)) := by
      intro i hi
      have hiL : i < L.size := by omega
      rw [decide_eq_true (by omega)]
      cases hb : L[i] with
      | true => rw [Array.getElem?_eq_getElem hiL, hb]
      | false =>
        exfalso
        have hmem : false ∈ L.toList := by rw [← hb]; simp
        have := List.count_pos_iff.2 hmem
        omega
    refine wpAny_tail hreg ht (l.drop m) m 0 L a g.w (Nat.le_refl _) rfl hs hall (by simp; omega) (hfin a g hI.ev hI.j hI.sat (fun k o hk hkl ho => hI.facts k o hk ?_ (by rw [hkl]; intro i hi; cases hi) ho) fun hki => hI.ini (by rw [hki]; intro i hi; cases hi))
    have := hall k (by omega)
    rwa [decide_eq_true hk] at this
  | succ fuel ih =>
    intro L a g hc hI hs hL
    by_cases hdone : ∀ i, i < m → L[i]? = some true
    · -- the first part is done
      have hall : ∀ i, i < l.length → L[i]? = some (decide (i < m)) := by
        intro i hi
        by_cases him : i < m
        · rw [decide_eq_true him]; exact hdone i him
        · rw [decide_eq_false him]; exact hL i (by omega) hi
      have hcnt : (l.drop m).length ≤ fuel + 1 := by
        have hsub : ((L.toList.drop m).count false) ≤ L.toList.count false := List.Sublist.count_le false (List.drop_sublist m _)
        have hrep : L.toList.drop m = List.replicate (l.length - m) false := by
          apply List.ext_getElem?
          intro i
          rw [List.getElem?_drop]
          by_cases hi : i < l.length - m
          · have := hL (m + i) (by omega) (by omega)
            rw [List.getElem?_replicate, if_pos hi]
            simpa using this
          · rw [List.getElem?_replicate, if_neg hi, List.getElem?_eq_none]
            simp; omega
        rw [hrep, List.count_replicate_self] at hsub
        simp; omega
      exact wpAny_tail hreg ht (l.drop m) m (fuel + 1) L a g.w (Nat.le_refl _) rfl hs hall hcnt (hfin a g hI.ev hI.j hI.sat (fun k o hk hkl ho => hI.facts k o hk (hdone k hk) (by rw [hkl]; intro i hi; cases hi) ho) fun hki => hI.ini (by rw [hki]; intro i hi; cases hi))
    · -- something of the first part is open: the least such operation may come up, and none of the tail may
      have hopen : ∃ i, i < m ∧ L[i]? = some false := by
        rw [Classical.not_forall] at hdone
        obtain ⟨i, hi⟩ := hdone
        rw [Classical.not_imp] at hi
        obtain ⟨him, hi⟩ := hi
        refine ⟨i, him, ?_⟩
        have hiL : i < L.size := by omega
        rw [Array.getElem?_eq_getElem hiL] at hi ⊢
        cases hb : L[i] with
        | true => rw [hb] at hi; exact absurd rfl hi
        | false => rfl
      refine ⟨fun hr => ?_, fun k hk => ?_⟩
      · exfalso
        have key : ∀ k, k < m → L[k]? = some true := by
          intro k
          induction k using Nat.strongRecOn with
          | _ k ihk =>
            intro hk
            have hkL : k < L.size := by omega
            have hkl : k < l.length := by omega
            cases hb : L[k] with
            | true => rw [Array.getElem?_eq_getElem hkL, hb]
            | false =>
              exfalso
              have : k ∈ Region.ready .any l.toArray L := by
                unfold Region.ready
                rw [List.mem_filter]
                refine ⟨by simp [hkl], ?_⟩
                have hLD : L.getD k true = false := by simp [Array.getD_eq_getD_getElem?, hkL, hb]
                rw [hLD]
                simp only [Bool.not_false, Bool.true_and]
                have hok : l.toArray[k]? = some l[k] := by simp [hkl]
                rw [hok]
                simp only [Option.map_some, Option.getD_some]
                rw [Array.all_eq_true_iff_forall_mem]
                intro x hx
                cases hbb : Region.binds .any x with
                | false => simp
                | true =>
                  have hd : x.on ∈ deps l.toArray k := by
                    unfold deps
                    rw [hok]
                    simp only [List.mem_map, List.mem_filter]
                    exact ⟨x, ⟨by simpa using hx, hbb⟩, rfl⟩
                  have hxk := (List.all_eq_true.1 ((List.all_eq_true.1 hedge) k (by simp [hkl]))) _ hd
                  have hxk' : x.on < k := by
                    have := Nat.le_of_ble_eq_true hxk
                    omega
                  have := ihk x.on hxk' (by omega)
                  simp [Array.getD_eq_getD_getElem?, this]
              rw [hr] at this
              cases this
        obtain ⟨i, him, hi⟩ := hopen
        rw [key i him] at hi
        cases hi
      · unfold Region.ready at hk
        rw [List.mem_filter] at hk
        obtain ⟨hkr, hk⟩ := hk
        have hkl : k < l.length := by simpa using hkr
        simp only [Bool.and_eq_true, Bool.not_eq_true'] at hk
        obtain ⟨hLk, haft⟩ := hk
        have hkL : k < L.size := by omega
        have hLf : L[k]? = some false := by
          rw [Array.getD_eq_getD_getElem?] at hLk
          rw [Array.getElem?_eq_getElem hkL] at hLk ⊢
          simpa using hLk
        have hok : l.toArray[k]? = some l[k] := by simp [hkl]
        have hokl : l[k]? = some l[k] := by simp [hkl]
        have hdeps : ∀ j ∈ deps l.toArray k, L[j]? = some true := by
          intro j hj
          rw [hok] at haft
          simp only [Option.map_some, Option.getD_some] at haft
          rw [Array.all_eq_true_iff_forall_mem] at haft
          unfold deps at hj
          rw [hok] at hj
          simp only [List.mem_map, List.mem_filter] at hj
          obtain ⟨x, ⟨hx, hb⟩, rfl⟩ := hj
          have := haft x (by simpa using hx)
          rw [hb] at this
          simp only [Bool.not_true, Bool.false_or] at this
          rw [Array.getD_eq_getD_getElem?] at this
          cases hq : L[x.on]? with
          | none => rw [hq] at this; cases this
          | some b => rw [hq] at this; simp at this; rw [this]
        have hkm : k < m := by
          rcases Nat.lt_or_ge k m with h | h
          · exact h
          · exfalso
            obtain ⟨i, him, hi⟩ := hopen
            have := (List.all_eq_true.1 ht) k (by simp [hkl])
            simp only [Bool.or_eq_true] at this
            rcases this with hb | hb
            · have := Nat.le_of_ble_eq_true hb
              omega
            · have hmem := memB_iff.1 ((List.all_eq_true.1 hb) i (by simp; omega))
              rw [hdeps i hmem] at hi
              cases hi
        have hdlt : ∀ j ∈ deps l.toArray k, j < k := by
          intro j hj
          have := Nat.le_of_ble_eq_true ((List.all_eq_true.1 ((List.all_eq_true.1 hedge) k (by simp [hkl]))) _ hj)
          omega
        have hS := hstep k l[k] hkm hokl a g hI.ev hI.j hI.sat (fun j hj hu oj h1 => hI.facts j oj (by have := hdlt j hj; omega) (hdeps j hj) (by
          intro i hi hLi
          rcases hu i hi with rfl | hki
          · rw [hLf] at hLi; cases hLi
          · have := hI.cl i hLi k hki
            rw [hLf] at this; cases this) h1) (fun hu => hI.ini fun i hi hLi => by
          rcases hu i hi with rfl | hki
          · rw [hLf] at hLi; cases hLi
          · have := hI.cl i hLi k hki
            rw [hLf] at this; cases this)
        have hnext : ∀ v g', S k g g' → J g' → T k (slw l[k] (a.put l[k].dst v)) g' → wpAny P .any l.toArray Q fuel (L.setIfInBounds k true) (a.put l[k].dst v) g'.w := by
          intro v g' hev hj hT
          refine ih _ _ _ ?_ ⟨hR.trans _ _ _ hI.ev (hSR k _ _ hev), hj, ?_, ?_, ?_, ?_⟩ (by simp [hs]) (fun i hi hil => by
            rw [Array.getElem?_setIfInBounds_ne (by omega)]; exact hL i hi hil)
          · have h1 : (L.setIfInBounds k true).toList = L.toList.set k true := by simp
            rw [h1, List.count_set (by simpa using hkL)]
            have hg : L.toList[k]'(by simpa using hkL) = false := by
              rw [Array.getElem?_eq_getElem hkL] at hLf
              simpa using hLf
            rw [hg]
            have hcc : Array.count false L = L.toList.count false := by simp
            simp
            omega
          · cases hd : l[k].dst with
            | none => exact hI.sat
            | some d => exact hI.sat.put_other (he d (mem_dsts (l := l.take m) (j := k) (by rw [List.getElem?_take, if_pos hkm]; exact hokl) hd)) v
          · intro j o hjm hLj hnk hjo'
            by_cases hjk : k = j
            · subst hjk
              rw [hokl] at hjo'
              injection hjo' with hjo'
              subst hjo'
              exact hT
            · have hLj' : L[j]? = some true := by rwa [Array.getElem?_setIfInBounds_ne hjk] at hLj
              have hf := hI.facts j o hjm hLj' (fun i hi hLi => hnk i hi (by
                by_cases hik : k = i
                · subst hik; rw [Array.getElem?_setIfInBounds_self_of_lt hkL]
                · rw [Array.getElem?_setIfInBounds_ne hik]; exact hLi)) hjo'
              have hkd : k ∉ deps l.toArray j := fun hkd => by
                have := hI.cl j hLj' k hkd
                rw [hLf] at this; cases this
              have : slw o (a.put l[k].dst v) = slw o a := slw_keep hst hdis hjo' hokl hjk hkd a v
              rw [this]
              exact hstab j k hjm hkm hjk (fun hkd => by
                have := hI.cl j hLj' k hkd
                rw [hLf] at this; cases this) (fun hkk => hnk k hkk (by rw [Array.getElem?_setIfInBounds_self_of_lt hkL])) _ _ _ hf hev hj
          · intro hnk
            refine hIst k hkm (fun hkk => hnk k hkk (by rw [Array.getElem?_setIfInBounds_self_of_lt hkL])) _ _ (hI.ini fun i hi hLi => hnk i hi ?_) hev hj
            by_cases hik : k = i
            · subst hik; rw [Array.getElem?_setIfInBounds_self_of_lt hkL]
            · rw [Array.getElem?_setIfInBounds_ne hik]; exact hLi
          · intro j hLj i hi
            by_cases hjk : k = j
            · subst hjk
              have := hdlt i hi
              rw [Array.getElem?_setIfInBounds_ne (by omega)]
              exact hdeps i hi
            · rw [Array.getElem?_setIfInBounds_ne hjk] at hLj
              have := hI.cl j hLj i hi
              by_cases hik : k = i
              · subst hik; rw [Array.getElem?_setIfInBounds_self_of_lt hkL]
              · rw [Array.getElem?_setIfInBounds_ne hik]; exact this
        unfold wpOp
        rw [hok]
        simp only []
        rcases hS with ⟨hw, hS⟩ | ⟨hw, hS1, hS2⟩
        · rw [if_pos hw]
          left
          refine Oper.wp_mono (fun a' w' h => ?_) hS
          obtain ⟨g', v, rfl, h1, h2, rfl, h3⟩ := h
          exact hnext v g' h1 h2 h3
        · rw [if_neg (by simp [hw])]
          exact hnext undef g hS1 hI.j hS2
/-- What is kept for a number. -/
def asc {α : Type} (z : α) : List (Nat × α) → Nat → α
  | [], _ => z
  | (j, x) :: r, k => match Nat.beq j k with
    | true => x
    | false => asc z r k
/-- The operations that may end an operation's fact. -/
abbrev klK (kl : List (Nat × List Nat)) (k : Nat) : List Nat := asc [] kl k
def usableB (l : List Oper) (kl : List (Nat × List Nat)) (k j : Nat) : Bool := (klK kl j).all fun i => Nat.beq i k || memB k (deps l.toArray i)
/-- The fact of an operation j as the operation k sees it. -/
def seenT (l : List Oper) (kl : List (Nat × List Nat)) (k j : Nat) (T : Fact) : Fact := match usableB l kl k j with
  | true => T
  | false => fun _ _ => True
def slotsK (l : List Oper) (kl : List (Nat × List Nat)) (k : Nat) (Ts : List Fact) : List Nat → List (Nat × Fact)
  | [] => []
  | j :: r => match l[j]? with
    | some o => match Ts[j]? with
      | some T => match o.dst with
        | some d => (d, seenT l kl k j T) :: slotsK l kl k Ts r
        | none => slotsK l kl k Ts r
      | none => slotsK l kl k Ts r
    | none => slotsK l kl k Ts r
/-- The facts of stores. -/
def storesK (l : List Oper) (kl : List (Nat × List Nat)) (k : Nat) (Ts : List Fact) (e : Env) (g : Gw) : List Nat → Prop → Prop
  | [], K => K
  | j :: r, K => match l[j]? with
    | some o => match Ts[j]? with
      | some T => match o.dst with
        | some _ => storesK l kl k Ts e g r K
        | none => (∀ u, viewE o e = some u → seenT l kl k j T u g) → storesK l kl k Ts e g r K
      | none => storesK l kl k Ts e g r K
    | none => storesK l kl k Ts e g r K
def withK : List (Nat × Fact) → Env → Gw → (Env → Prop) → Prop
  | [], e, _, K => K e
  | (d, T) :: r, e, g, K => ∀ v, T v g → withK r ((d, v) :: e) g K
theorem withK_spec {l : List Oper} {kl : List (Nat × List Nat)} {k : Nat} {Ts : List Fact} {g : Gw} {n : Nat} {a : Act} {K : Env → Prop} : ∀ (js : List Nat) (e : Env), Sat n e a → (∀ j ∈ js, ∀ o T, l[j]? = some o → Ts[j]? = some T → seenT l kl k j T (slw o a) g) →
    withK (slotsK l kl k Ts js) e g K → ∃ e', Sat n e' a ∧ K e'
  | [], e, hs, _, h => ⟨e, hs, h⟩
  | j :: r, e, hs, hT, h => by
    simp only [slotsK] at h
    have hr := fun x (hx : x ∈ r) => hT x (List.mem_cons_of_mem _ hx)
    cases hj : l[j]? with
    | none => rw [hj] at h; exact withK_spec r e hs hr h
    | some o =>
      rw [hj] at h
      simp only [] at h
      cases hq : Ts[j]? with
      | none => rw [hq] at h; exact withK_spec r e hs hr h
      | some T =>
        rw [hq] at h
        simp only [] at h
        have hh := hT j (List.mem_cons_self ..) o T hj hq
        unfold slw at hh
        cases hd : o.dst with
        | none => rw [hd] at h; exact withK_spec r e hs hr h
        | some d =>
          rw [hd] at h hh
          have h1 := h (a.tmps.getD d undef) hh
          refine withK_spec r _ ⟨hs.size, hs.defers, fun t v ht => ?_⟩ hr h1
          rw [lk_cons] at ht
          by_cases hdt : d = t
          · subst hdt
            rw [if_pos rfl] at ht
            injection ht
          · rw [if_neg hdt] at ht
            exact hs.get t v ht
theorem storesK_spec {l : List Oper} {kl : List (Nat × List Nat)} {k : Nat} {Ts : List Fact} {g : Gw} {n : Nat} {a : Act} {e : Env} {K : Prop} (hs : Sat n e a) : ∀ (js : List Nat), (∀ j ∈ js, ∀ o T, l[j]? = some o → Ts[j]? = some T → seenT l kl k j T (slw o a) g) →
    storesK l kl k Ts e g js K → K
  | [], _, h => h
  | j :: r, hT, h => by
    simp only [storesK] at h
    have hr := fun x (hx : x ∈ r) => hT x (List.mem_cons_of_mem _ hx)
    cases hj : l[j]? with
    | none => rw [hj] at h; exact storesK_spec hs r hr h
    | some o =>
      rw [hj] at h
      simp only [] at h
      cases hq : Ts[j]? with
      | none => rw [hq] at h; exact storesK_spec hs r hr h
      | some T =>
        rw [hq] at h
        simp only [] at h
        cases hd : o.dst with
        | some d => rw [hd] at h; exact storesK_spec hs r hr h
        | none =>
          rw [hd] at h
          exact storesK_spec hs r hr (h fun u hu => by
            have := hT j (List.mem_cons_self ..) o T hj hq
            rwa [hs.slw hu] at this)
/-- As OgDo; the fact of a store speaks of the pointer. -/
structure OgDo3 (P : Program) (R : Gw → Gw → Prop) (J : Gw → Prop) (T : Fact) (o : Oper) (e : Env) (g : Gw) : Prop where
  go : ∀ ρ, Fits e ρ →
    (∃ v g', o.dst ≠ none ∧ (execOp ρ o).run P g.w = .ok (.value v) g'.w ∧ R g g' ∧ J g' ∧ T v g') ∨ (∃ f args, o.dst ≠ none ∧ (execOp ρ o).run P g.w = .ok (.enter f args) g.w ∧ CallsV P f args g.w (fun v w' => ∃ g', g'.w = w' ∧ R g g' ∧ J g' ∧ T v g')) ∨
    (o.dst = none ∧ ∃ u g', viewE o e = some u ∧ (execOp ρ o).run P g.w = .ok .skip g'.w ∧ R g g' ∧ J g' ∧ T u g')
theorem OgDo.d3 {P : Program} {R : Gw → Gw → Prop} {J : Gw → Prop} {T : Fact} {o : Oper} {e : Env} {g : Gw} {d : Nat} (h : OgDo P R J T o e g) (hd : o.dst = some d) : OgDo3 P R J T o e g := .mk fun ρ hf => by
  have hn : o.dst ≠ none := by rw [hd]; simp
  have hv : ∀ v, dv o v = v := fun v => by unfold dv; rw [hd]
  rcases h.go ρ hf with ⟨v, g', h1, h2, h3, h4⟩ | ⟨f, args, h1, hc⟩ | ⟨h0, _⟩
  · rw [hv] at h4; exact .inl ⟨v, g', hn, h1, h2, h3, h4⟩
  · exact .inr (.inl ⟨f, args, hn, h1, hc.mono fun v w' ⟨g', k1, k2, k3, k4⟩ => ⟨g', k1, k2, k3, by rwa [hv] at k4⟩⟩)
  · exact absurd h0 hn
theorem og3_du {P : Program} {R' : Gw → Gw → Prop} {J : Gw → Prop} {T : Fact} {o : Oper} {e : Env} {g : Gw} {u : Value} {R : World → Prop} (h : Dus P o e g.w R) (hd : o.dst = none) (hu : viewE o e = some u) (k : ∀ w', R w' → ∃ g', g'.w = w' ∧ R' g g' ∧ J g' ∧ T u g') : OgDo3 P R' J T o e g := .mk fun ρ hf => by
  obtain ⟨w', hr, hR⟩ := h ρ hf
  obtain ⟨g', rfl, h1, h2, h3⟩ := k w' hR
  exact .inr (.inr ⟨hd, u, g', hu, hr, h1, h2, h3⟩)
def relK (R0 : Gw → Gw → Prop) (Ss : List (Nat × (Gw → Gw → Prop))) (k : Nat) : Gw → Gw → Prop := asc R0 Ss k
theorem seenT_of {l : List Oper} {kl : List (Nat × List Nat)} {k j : Nat} {T : Fact} {v : Value} {g : Gw} (h : usableB l kl k j = true → T v g) : seenT l kl k j T v g := by
  unfold seenT
  cases hu : usableB l kl k j with
  | true => exact h hu
  | false => trivial
/-- An operation, under its guard if it has one. -/
def GDo (P : Program) (R : Gw → Gw → Prop) (J : Gw → Prop) (l : List Oper) (T : Fact) (o : Oper) (e : Env) (g : Gw) : Prop := match o.guard with
  | none => OgDo3 P R J T o e g
  | some (j, b) => match (l[j]?).bind (·.dst) with
    | some t => o.dst ≠ none ∧ ∃ u, lk e t = some u ∧ (boolOf u = some b → OgDo3 P R J T o e g) ∧ (boolOf u ≠ some b → R g g ∧ T undef g)
    | none => False
def oblK (P : Program) (R0 R : Gw → Gw → Prop) (Ss : List (Nat × (Gw → Gw → Prop))) (J : Gw → Prop) (l : List Oper) (kl : List (Nat × List Nat)) (I : Gw → Prop) (kI : List Nat) (Ts : List Fact) (e : Env) (g0 : Gw) : Nat → List Oper → List Fact → Prop
  | _, [], [] => True
  | k, o :: r, T :: s => (∀ g, R g0 g → J g → ((kI.all fun i => Nat.beq i k || memB k (deps l.toArray i)) = true → I g) → withK (slotsK l kl k Ts (deps l.toArray k)) e g fun e' => storesK l kl k Ts e' g (deps l.toArray k) (GDo P (relK R0 Ss k) J l T o e' g)) ∧ oblK P R0 R Ss J l kl I kI Ts e g0 (k + 1) r s
  | _, _, _ => False
theorem oblK_spec {P : Program} {R0 R : Gw → Gw → Prop} {Ss : List (Nat × (Gw → Gw → Prop))} {J : Gw → Prop} {l : List Oper} {kl : List (Nat × List Nat)} {I : Gw → Prop} {kI : List Nat} {Ts : List Fact} {e : Env} {g0 : Gw} : ∀ (p : List Oper) (s : List Fact) (k : Nat), oblK P R0 R Ss J l kl I kI Ts e g0 k p s →
    p.length = s.length ∧ ∀ i o T, p[i]? = some o → s[i]? = some T → ∀ g, R g0 g → J g → ((kI.all fun x => Nat.beq x (k + i) || memB (k + i) (deps l.toArray x)) = true → I g) → withK (slotsK l kl (k + i) Ts (deps l.toArray (k + i))) e g fun e' => storesK l kl (k + i) Ts e' g (deps l.toArray (k + i)) (GDo P (relK R0 Ss (k + i)) J l T o e' g)
  | [], [], _, _ => ⟨rfl, fun i o T h => by simp at h⟩
  | [], _ :: _, _, h => h.elim
  | _ :: _, [], _, h => h.elim
  | o :: r, T :: s, k, ⟨h1, h2⟩ => by
    obtain ⟨hl, hr⟩ := oblK_spec r s (k + 1) h2
    refine ⟨by simp [hl], fun i o' T' ho hT => ?_⟩
    cases i with
    | zero =>
      simp at ho hT
      subst ho; subst hT
      exact h1
    | succ i =>
      simp at ho hT
      have := hr i o' T' ho hT
      rwa [show k + 1 + i = k + (i + 1) from by omega] at this
/-- A fact lasts over what special operations do, but for those that end it. -/
def stabS (J : Gw → Prop) (T : Fact) (ds ks : List Nat) (k : Nat) : List (Nat × (Gw → Gw → Prop)) → Prop
  | [] => True
  | (j, S) :: r => match Nat.beq j k || memB j ds || memB j ks with
    | true => stabS J T ds ks k r
    | false => (∀ v g g', T v g → S g g' → J g' → T v g') ∧ stabS J T ds ks k r
theorem stabS_spec {R0 : Gw → Gw → Prop} {J : Gw → Prop} {T : Fact} {ds ks : List Nat} {k : Nat} (h0 : ∀ v g g', T v g → R0 g g' → J g' → T v g') : ∀ {Ss : List (Nat × (Gw → Gw → Prop))}, stabS J T ds ks k Ss → ∀ j, j ≠ k → j ∉ ds → j ∉ ks → ∀ v g g', T v g → relK R0 Ss j g g' → J g' → T v g'
  | [], _, j, _, _, _, v, g, g', ht, hr, hj => h0 v g g' ht hr hj
  | (i, S) :: r, h, j, h1, h2, h3, v, g, g', ht, hr, hj => by
    simp only [relK, asc] at hr
    cases hb : Nat.beq i j with
    | false =>
      rw [hb] at hr
      refine stabS_spec h0 (Ss := r) ?_ j h1 h2 h3 v g g' ht hr hj
      simp only [stabS] at h
      split at h
      · exact h
      · exact h.2
    | true =>
      rw [hb] at hr
      have hij := Nat.eq_of_beq_eq_true hb
      subst hij
      simp only [stabS] at h
      have : (Nat.beq i k || memB i ds || memB i ks) = false := by
        simp only [Bool.or_eq_false_iff]
        refine ⟨⟨?_, ?_⟩, ?_⟩
        · cases hc : Nat.beq i k with
          | false => rfl
          | true => exact absurd (Nat.eq_of_beq_eq_true hc) h1
        · cases hc : memB i ds with
          | false => rfl
          | true => exact absurd (memB_iff.1 hc) h2
        · cases hc : memB i ks with
          | false => rfl
          | true => exact absurd (memB_iff.1 hc) h3
      rw [this] at h
      exact h.1 v g g' ht hr hj
/-- Each fact lasts. -/
def stabsK (R0 : Gw → Gw → Prop) (Ss : List (Nat × (Gw → Gw → Prop))) (J : Gw → Prop) (l : List Oper) (kl : List (Nat × List Nat)) : Nat → List Fact → Prop
  | _, [] => True
  | k, T :: s => ((∀ v g g', T v g → R0 g g' → J g' → T v g') ∧ stabS J T (deps l.toArray k) (klK kl k) k Ss) ∧ stabsK R0 Ss J l kl (k + 1) s
theorem stabsK_spec {R0 : Gw → Gw → Prop} {Ss : List (Nat × (Gw → Gw → Prop))} {J : Gw → Prop} {l : List Oper} {kl : List (Nat × List Nat)} : ∀ (Ts : List Fact) (k : Nat), stabsK R0 Ss J l kl k Ts → ∀ i T, Ts[i]? = some T →
    (∀ v g g', T v g → R0 g g' → J g' → T v g') ∧ stabS J T (deps l.toArray (k + i)) (klK kl (k + i)) (k + i) Ss
  | [], _, _, i, T, hT => by simp at hT
  | U :: s, k, ⟨h1, h2⟩, i, T, hT => by
    cases i with
    | zero =>
      simp at hT
      subst hT
      rw [Nat.add_zero]
      exact h1
    | succ i =>
      simp at hT
      have := stabsK_spec s (k + 1) h2 i T hT
      rwa [show k + 1 + i = k + (i + 1) from by omega] at this
/-- An initial fact lasts over what special operations do, but for those that end it. -/
def stabI (J I : Gw → Prop) (kI : List Nat) : List (Nat × (Gw → Gw → Prop)) → Prop
  | [] => True
  | (j, S) :: r => match memB j kI with
    | true => stabI J I kI r
    | false => (∀ g g', I g → S g g' → J g' → I g') ∧ stabI J I kI r
theorem stabI_spec {R0 : Gw → Gw → Prop} {J I : Gw → Prop} {kI : List Nat} (h0 : ∀ g g', I g → R0 g g' → J g' → I g') : ∀ {Ss : List (Nat × (Gw → Gw → Prop))}, stabI J I kI Ss → ∀ j, j ∉ kI → ∀ g g', I g → relK R0 Ss j g g' → J g' → I g'
  | [], _, j, _, g, g', ht, hr, hj => h0 g g' ht hr hj
  | (i, S) :: r, h, j, h1, g, g', ht, hr, hj => by
    simp only [relK, asc] at hr
    cases hb : Nat.beq i j with
    | false =>
      rw [hb] at hr
      refine stabI_spec h0 (Ss := r) ?_ j h1 g g' ht hr hj
      simp only [stabI] at h
      split at h
      · exact h
      · exact h.2
    | true =>
      rw [hb] at hr
      have hij := Nat.eq_of_beq_eq_true hb
      subst hij
      simp only [stabI] at h
      have : memB i kI = false := by
        cases hc : memB i kI with
        | false => rfl
        | true => exact absurd (memB_iff.1 hc) h1
      rw [this] at h
      exact h.1 g g' ht hr hj
/-- Every special step is allowed. -/
def subsK (R : Gw → Gw → Prop) : List (Nat × (Gw → Gw → Prop)) → Prop
  | [] => True
  | (_, S) :: r => (∀ g g', S g g' → R g g') ∧ subsK R r
theorem subsK_spec {R0 R : Gw → Gw → Prop} (h01 : ∀ g g', R0 g g' → R g g') : ∀ {Ss : List (Nat × (Gw → Gw → Prop))}, subsK R Ss → ∀ k g g', relK R0 Ss k g g' → R g g'
  | [], _, _, g, g', h => h01 g g' h
  | (j, S) :: r, ⟨h1, h2⟩, k, g, g', h => by
    simp only [relK, asc] at h
    cases hb : Nat.beq j k with
    | true => rw [hb] at h; exact h1 g g' h
    | false => rw [hb] at h; exact subsK_spec h01 h2 k g g' h
/-- What is kept at the end. -/
def endK (l : List Oper) (kl : List (Nat × List Nat)) (k : Nat) (o : Oper) (T : Fact) : Fact := match klK kl k with
  | [] => match o.dst with
    | some _ => T
    | none => fun _ _ => True
  | _ => fun _ _ => True
def endT (l : List Oper) (kl : List (Nat × List Nat)) : Nat → List Oper → List Fact → List Fact
  | k, o :: r, T :: s => endK l kl k o T :: endT l kl (k + 1) r s
  | _, _, _ => []
theorem endT_get {l : List Oper} {kl : List (Nat × List Nat)} : ∀ (p : List Oper) (Ts : List Fact) (k i : Nat) (T' : Fact), (endT l kl k p Ts)[i]? = some T' → ∃ o T, p[i]? = some o ∧ Ts[i]? = some T ∧ T' = endK l kl (k + i) o T
  | [], _, _, _, _, h => by simp [endT] at h
  | _ :: _, [], _, _, _, h => by simp [endT] at h
  | o :: r, T :: s, k, 0, T', h => by
    simp only [endT, List.getElem?_cons_zero, Option.some.injEq] at h
    exact ⟨o, T, rfl, rfl, h.symm⟩
  | o :: r, T :: s, k, i + 1, T', h => by
    simp only [endT, List.getElem?_cons_succ] at h
    obtain ⟨o', T0, h1, h2, h3⟩ := endT_get r s (k + 1) i T' h
    exact ⟨o', T0, h1, h2, by rw [h3, show k + 1 + i = k + (i + 1) from by omega]⟩
theorem endT_len {l : List Oper} {kl : List (Nat × List Nat)} : ∀ (p : List Oper) (Ts : List Fact) (k : Nat), p.length = Ts.length → (endT l kl k p Ts).length = Ts.length
  | [], [], _, _ => rfl
  | [], _ :: _, _, h => by simp at h
  | _ :: _, [], _, h => by simp at h
  | o :: r, T :: s, k, h => by simp [endT, endT_len r s (k + 1) (by simpa using h)]
/-- The facts of the stores at the end. -/
def endS (l : List Oper) (kl : List (Nat × List Nat)) (e : Env) (g : Gw) : Nat → List Oper → List Fact → Prop → Prop
  | k, o :: r, T :: s, K => match o.dst with
    | some _ => endS l kl e g (k + 1) r s K
    | none => match klK kl k with
      | [] => (∀ u, viewE o e = some u → T u g) → endS l kl e g (k + 1) r s K
      | _ => endS l kl e g (k + 1) r s K
  | _, _, _, K => K
theorem endS_spec {l : List Oper} {kl : List (Nat × List Nat)} {e : Env} {g : Gw} {n : Nat} {a : Act} {K : Prop} (hs : Sat n e a) : ∀ (p : List Oper) (Ts : List Fact) (k : Nat), (∀ i o T, p[i]? = some o → Ts[i]? = some T → klK kl (k + i) = [] → T (slw o a) g) → endS l kl e g k p Ts K → K
  | [], _, _, _, h => by simpa [endS] using h
  | _ :: _, [], _, _, h => by simpa [endS] using h
  | o :: r, T :: s, k, hT, h => by
    have hr : ∀ i o' T', r[i]? = some o' → s[i]? = some T' → klK kl (k + 1 + i) = [] → T' (slw o' a) g := fun i o' T' h1 h2 h3 => hT (i + 1) o' T' (by simpa using h1) (by simpa using h2) (by rwa [show k + (i + 1) = k + 1 + i from by omega])
    simp only [endS] at h
    cases hd : o.dst with
    | some d => rw [hd] at h; exact endS_spec hs r s (k + 1) hr h
    | none =>
      rw [hd] at h
      simp only [] at h
      cases hk : klK kl k with
      | nil =>
        rw [hk] at h
        exact endS_spec hs r s (k + 1) hr (h fun u hu => by
          have := hT 0 o T rfl rfl hk
          rwa [hs.slw hu] at this)
      | cons x y => rw [hk] at h; exact endS_spec hs r s (k + 1) hr h
theorem OgDo.rel {P : Program} {R R' : Gw → Gw → Prop} {J : Gw → Prop} {T : Fact} {o : Oper} {e : Env} {g : Gw} (h : OgDo P R J T o e g) (hr : ∀ g', R g g' → R' g g') : OgDo P R' J T o e g := .mk fun ρ hf => by
  rcases h.go ρ hf with ⟨v, g', h1, h2, h3⟩ | ⟨f, args, h1, hc⟩ | ⟨h0, g', h1, h2, h3⟩
  · exact .inl ⟨v, g', h1, hr _ h2, h3⟩
  · exact .inr (.inl ⟨f, args, h1, hc.mono fun v w' ⟨g', k1, k2, k3⟩ => ⟨g', k1, hr _ k2, k3⟩⟩)
  · exact .inr (.inr ⟨h0, g', h1, hr _ h2, h3⟩)
/-- As c_ogt; the operations of Ss may do what their relation allows (all others what R0 allows); kl names the operations that end a fact. -/
theorem c_ogk {id : Nat} {l p : List Oper} {e : Env} {g0 : Gw} (R0 R : Gw → Gw → Prop) (hR : Pre R) (h01 : ∀ g g', R0 g g' → R g g') (h0 : R g0 g0.draw) (Ss : List (Nat × (Gw → Gw → Prop))) (hSs : subsK R Ss) (kl : List (Nat × List Nat)) (I : Gw → Prop) (kI : List Nat) (hI0 : I g0.draw) (J : Gw → Prop) (hI1 : ∀ g g', I g → R0 g g' → J g' → I g') (hI2 : stabI J I kI Ss) (Ts : List Fact) (m : Nat) (hm : P.follows .mixedOrders = true) (hreg : regB n l = true) (ht : tailB m l = true) (hst : stB l = true) (hml : Nat.ble m l.length = true) (hp : l.take m = p) (hJ : J g0.draw)
    (hstab : stabsK R0 Ss J l kl 0 Ts)
    (hob : oblK P R0 R Ss J l kl I kI Ts (drp (dsts p) e) g0 0 p Ts)
    (hfin : ∀ g vs, R g0 g → J g → (Nat.beq kI.length 0 = true → I g) → factsOf (endT l kl 0 p Ts) vs g → endS l kl (putsE p vs (drp (dsts p) e)) g 0 p Ts (wpL P n l.toArray Q (l.drop m) (putsE p vs (drp (dsts p) e)) g.w)) :
    wpC P n (.region id l.toArray true) Q e g0.w := by
  intro a ha
  refine wp_region_any hm ?_
  subst hp
  obtain ⟨hlen, hob'⟩ := oblK_spec _ _ _ hob
  have hml' := Nat.le_of_ble_eq_true hml
  have hTl : Ts.length = m := by rw [← hlen]; simp; omega
  have hreg' := hreg
  simp only [regB, Bool.and_eq_true] at hreg'
  obtain ⟨⟨hdis, hlt⟩, hedge⟩ := hreg'
  refine wpAny_ogk (m := m) (T := fun k v g => ∀ T, Ts[k]? = some T → T v g) (S := relK R0 Ss) (kl := klK kl) (I := I) (kI := kI) (e0 := drp (dsts (l.take m)) e) (g0 := g0) hR hreg ht hst hml' (fun d hd => lk_drp hd e) ?_ ?_ ?_ ?_ ?_ _ _ a g0.draw (by simp) ⟨h0, hJ, Sub.drp.sat ha, ?_, fun _ => hI0, ?_⟩ (by simp) ?_
  · exact fun k g g' h => subsK_spec h01 hSs k g g' h
  · exact fun j _ hjk g g' hi hr hj => stabI_spec hI1 hI2 j hjk g g' hi hr hj
  · intro k j _ _ hjk hjd hjl v g g' h1 hev hj T hT
    obtain ⟨ha0, hb0⟩ := stabsK_spec Ts 0 hstab k T hT
    rw [Nat.zero_add] at hb0
    exact stabS_spec ha0 hb0 j hjk hjd hjl v g g' (h1 T hT) hev hj
  · intro k o hk ho a g hev hj hsat hdep hini
    obtain ⟨T, hT⟩ : ∃ T, Ts[k]? = some T := ⟨Ts[k]'(by omega), List.getElem?_eq_getElem (by omega)⟩
    have hw := hob' k o T (by rw [List.getElem?_take, if_pos hk]; exact ho) hT
    rw [Nat.zero_add] at hw
    have hw' := hw g hev hj (fun hu => hini fun i hi => by
      have := (List.all_eq_true.1 hu) i hi
      simp only [Bool.or_eq_true] at this
      rcases this with hh | hh
      · exact .inl (Nat.eq_of_beq_eq_true hh)
      · exact .inr (memB_iff.1 hh))
    have hdd : ∀ j ∈ deps l.toArray k, ∀ o' T', l[j]? = some o' → Ts[j]? = some T' → seenT l kl k j T' (slw o' a) g := fun j hj o' T' h1 h3 => seenT_of fun hu => hdep j hj (fun i hi => by
        have := (List.all_eq_true.1 hu) i hi
        simp only [Bool.or_eq_true] at this
        rcases this with hh | hh
        · exact .inl (Nat.eq_of_beq_eq_true hh)
        · exact .inr (memB_iff.1 hh)) o' h1 T' h3
    obtain ⟨e', hs', hdo⟩ := withK_spec _ _ hsat hdd hw'
    have hdo := storesK_spec hs' _ hdd hdo
    have hout : ∀ v g', o.dst ≠ none → T v g' → ∀ T', Ts[k]? = some T' → T' (slw o (a.put o.dst v)) g' := fun v g' hn h3 T' hT' => by
      rw [hT] at hT'; injection hT' with hT'; subst hT'
      cases hd : o.dst with
      | none => exact absurd hd hn
      | some d =>
        have hdn : d < n := by
          have h1 := (List.all_eq_true.1 hlt) d (mem_dsts ho hd)
          exact Nat.le_of_ble_eq_true h1
        have : slw o (a.put (some d) v) = v := by
          unfold slw
          rw [hd]
          simp [Act.put, Array.getD, hsat.size, hdn]
        rw [this]; exact h3
    have hrun : OgDo3 P (relK R0 Ss k) J T o e' g → o.wp P a g.w (fun a' w' => ∃ g' v, g'.w = w' ∧ relK R0 Ss k g g' ∧ J g' ∧ a' = a.put o.dst v ∧ (∀ T', Ts[k]? = some T' → T' (slw o a') g')) Q := by
      intro hdo
      unfold Oper.wp
      rcases hdo.go a.eval hs'.fits with ⟨v, g', hn, hr, h1, h2, h3⟩ | ⟨f, args, hn, hr, hc⟩ | ⟨hd0, u, g', hu, hr, h1, h2, h3⟩
      · rw [hr, Oper.upon_value]
        exact ⟨g', v, rfl, h1, h2, rfl, hout v g' hn h3⟩
      · rw [hr, Oper.upon_enter]
        refine Calls.mono hc ?_
        rintro _ w' ⟨v, rfl, g', rfl, h1, h2, h3⟩
        exact ⟨g', v, rfl, h1, h2, rfl, hout v g' hn h3⟩
      · rw [hr, Oper.upon_skip]
        have hput : a.put o.dst undef = a := by rw [hd0]; rfl
        refine ⟨g', undef, rfl, h1, h2, rfl, fun T' hT' => ?_⟩
        rw [hT] at hT'; injection hT' with hT'; subst hT'
        rw [hput, hs'.slw hu]; exact h3
    unfold GDo at hdo
    cases hg : o.guard with
    | none =>
      rw [hg] at hdo
      exact .inl ⟨by simp [Region.wanted, hg], hrun hdo⟩
    | some jb =>
      obtain ⟨j, b⟩ := jb
      rw [hg] at hdo
      simp only [] at hdo
      cases hdj : (l[j]?).bind (·.dst) with
      | none => rw [hdj] at hdo; exact hdo.elim
      | some t =>
        rw [hdj] at hdo
        simp only [] at hdo
        obtain ⟨hdn, u, hu, h1, h2⟩ := hdo
        have hy : yielded l.toArray a.tmps j = boolOf u := by
          have hgt := hs'.get t u hu
          unfold yielded
          have : (l.toArray[j]?).bind (·.dst) = some t := by simpa using hdj
          rw [this]
          simp only [Option.bind_some]
          rw [Array.getD_eq_getD_getElem?] at hgt
          cases hx : a.tmps[t]? with
          | none => rw [hx] at hgt; simp at hgt; subst hgt; rfl
          | some z => rw [hx] at hgt; simp at hgt; subst hgt; cases z <;> rfl
        by_cases hub : boolOf u = some b
        · exact .inl ⟨by simp [Region.wanted, hg, hy, hub], hrun (h1 hub)⟩
        · obtain ⟨h3, h4⟩ := h2 hub
          exact .inr ⟨by simp [Region.wanted, hg, hy, hub], h3, hout undef g hdn h4⟩
  · intro a g hev hj hsat hall hini
    -- the values of the first operations
    let vs : List Value := (l.take m).map fun o => slw o a
    have hvl : vs.length = m := by simp [vs]; omega
    have hsat2 : Sat n (putsE (l.take m) vs (drp (dsts (l.take m)) e)) a := ?_
    refine endS_spec hsat2 (l.take m) Ts 0 (fun i o T h1 h2 h3 => ?_) (hfin g vs hev hj (fun hk0 => hini (List.eq_nil_of_length_eq_zero (Nat.eq_of_beq_eq_true hk0))) (factsOf_mk _ _ (by rw [endT_len _ _ _ hlen]; omega) fun i T v hT hv => ?_)) a hsat2
    · rw [Nat.zero_add] at h3
      have him : i < m := by rw [← hTl]; exact (List.getElem?_eq_some_iff.1 h2).1
      rw [List.getElem?_take, if_pos him] at h1
      exact hall i o him h3 h1 T h2
    · obtain ⟨o, T0, h1, h2, rfl⟩ := endT_get _ _ _ _ _ hT
      have him : i < m := by rw [← hTl]; exact (List.getElem?_eq_some_iff.1 h2).1
      have hvi : vs[i]? = some (slw o a) := by
        simp only [vs, List.getElem?_map, h1, Option.map_some]
      rw [hv] at hvi
      injection hvi with hvi
      rw [Nat.zero_add]
      rw [List.getElem?_take, if_pos him] at h1
      unfold endK
      cases hkl : klK kl i with
      | cons _ _ => trivial
      | nil =>
        cases hdo : o.dst with
        | none => trivial
        | some d => rw [hvi]; exact hall i o him hkl h1 T0 h2
    · refine ⟨hsat.size, hsat.defers, fun t u hu => ?_⟩
      have hdt : distinctB (l.take m) = true := by
        have aux : ∀ (q : List Oper) (k : Nat), distinctB q = true → distinctB (q.take k) = true := by
          intro q
          induction q with
          | nil => intro k _; simp [distinctB]
          | cons y s ih =>
            intro k hq
            cases k with
            | zero => rfl
            | succ k =>
              simp only [List.take_succ_cons, distinctB, Bool.and_eq_true] at hq ⊢
              refine ⟨?_, ih k hq.2⟩
              cases hy : y.dst with
              | none => rfl
              | some d0 =>
                have h1 := hq.1
                rw [hy] at h1
                simp only [Bool.not_eq_true'] at h1 ⊢
                cases hm' : memB d0 (dsts (s.take k)) with
                | false => rfl
                | true =>
                  rw [memB_iff] at hm'
                  unfold dsts at hm'
                  rw [List.mem_filterMap] at hm'
                  obtain ⟨z, hz, hzd⟩ := hm'
                  have : d0 ∈ dsts s := by
                    unfold dsts
                    rw [List.mem_filterMap]
                    exact ⟨z, List.mem_of_mem_take hz, hzd⟩
                  rw [memB_iff.2 this] at h1
                  cases h1
        exact aux l m hdis
      by_cases htd : t ∈ dsts (l.take m)
      · unfold dsts at htd
        rw [List.mem_filterMap] at htd
        obtain ⟨o, ho, hd⟩ := htd
        obtain ⟨j, hj'⟩ := List.mem_iff_getElem?.1 ho
        have hvj : vs[j]? = some (a.tmps.getD t undef) := by
          simp only [vs, List.getElem?_map, hj', Option.map_some, slw, hd]
        rw [lk_putsE_at (l.take m) vs _ j o t _ hdt hj' hvj hd] at hu
        injection hu
      · rw [lk_putsE_not _ _ _ htd] at hu
        exact hsat.get t u hu
  · intro k o _ hk
    simp [Array.getElem?_replicate] at hk
  · intro k hk
    simp [Array.getElem?_replicate] at hk
  · intro i _ hi
    simp [hi]
end og
theorem OgDo.imp {P : Program} {R : Gw → Gw → Prop} {J : Gw → Prop} {T T' : Fact} {o : Oper} {e : Env} {g : Gw} (h : OgDo P R J T o e g) (ht : ∀ v g', T v g' → T' v g') : OgDo P R J T' o e g := .mk fun ρ hf => by
  rcases h.go ρ hf with ⟨v, g', h1, h2, h3, h4⟩ | ⟨f, args, h1, hc⟩ | ⟨h0, g', h1, h2, h3, h4⟩
  · exact .inl ⟨v, g', h1, h2, h3, ht _ _ h4⟩
  · exact .inr (.inl ⟨f, args, h1, hc.mono fun v w' ⟨g', k1, k2, k3, k4⟩ => ⟨g', k1, k2, k3, ht _ _ k4⟩⟩)
  · exact .inr (.inr ⟨h0, g', h1, h2, h3, ht _ _ h4⟩)
/-- A step that may write, of the blocks from B on, those of which a part is frozen (rows that grow). -/
def EvZ (B : Nat) (g g' : Gw) : Prop := Ev (fun b => B ≤ b ∧ 0 < g.F b) g g'
/-- A step that may write the variables of the type T from B on. -/
def EvV (B T : Nat) (g g' : Gw) : Prop := Ev (fun b => B ≤ b ∧ ∃ cs, Blk g b T cs) g g'
/-- What a statement whose order is open may write: blocks of M; from B on rows that grow; from B' on whatever it made. -/
def EvR (M : Nat → Prop) (B B' : Nat) (g g' : Gw) : Prop := Ev (fun b => M b ∨ (B ≤ b ∧ 0 < g.F b) ∨ B' ≤ b) g g'
theorem EvR.pre (M : Nat → Prop) (B B' : Nat) : Pre (EvR M B B') := ⟨fun g => Ev.refl _ g, fun a b c h k => ⟨k.os.trans h.os, k.tape.trans h.tape, k.output.trans h.output, Nat.le_trans h.size k.size, fun x => Nat.le_trans (h.mono x) (k.mono x),
  fun x o ho => (k.cell x o (Nat.lt_of_lt_of_le ho (h.mono x))).trans (h.cell x o ho), fun x hx hn => by
    obtain ⟨h1, h2⟩ := h.keep x hx hn
    obtain ⟨k1, k2⟩ := k.keep x (Nat.lt_of_lt_of_le hx h.size) (fun hh => hn (by rw [← h2]; exact hh))
    exact ⟨k1.trans h1, k2.trans h2⟩⟩⟩
theorem EvR.of {M : Nat → Prop} {B B' : Nat} (g g' : Gw) (h : Ev M g g') : EvR M B B' g g' := h.weaken fun _ hb => .inl (.inl hb)
theorem EvR.draw0 (M : Nat → Prop) (B B' : Nat) (g : Gw) : EvR M B B' g g.draw := g.draw_ev.of_no
theorem EvZ.toR {M : Nat → Prop} {B B' : Nat} (g g' : Gw) (h : EvZ B g g') : EvR M B B' g g' := h.weaken fun _ hb => .inl (.inr (.inl hb))
theorem EvV.toR {M : Nat → Prop} {B B' T : Nat} (g g' : Gw) (h : EvV B' T g g') : EvR M B B' g g' := h.weaken fun _ hb => .inl (.inr (.inr hb.1))
theorem EvR.hE {M : Nat → Prop} {B : Nat} {g0 g1 g' : Gw} (h : Ev M g0 g1) (hB : g0.w.heap.size ≤ B) (hr : EvR M B g1.w.heap.size g1 g') : Ev M g0 g' := h.step hr fun x hx => by
  rcases hx with hx | hx | hx
  · exact .inl hx
  · exact .inr (Nat.le_trans hB hx.1)
  · exact .inr (Nat.le_trans h.size hx)
theorem EvZ.refl {B : Nat} (g : Gw) : EvZ B g g := Ev.refl _ g
theorem Blk.nz {g : Gw} {b T B : Nat} {cs : List Value} (h : Blk g b T cs) : ¬ (B ≤ b ∧ 0 < g.F b) := fun hh => by
  have := h.2
  omega
theorem Blk.evR {M : Nat → Prop} {B : Nat} {g g' g0 : Gw} {b T : Nat} {cs : List Value} (h : Blk g b T cs) (he : EvR M B g0.w.heap.size g g') (hM : ¬ M b) (hb : b < g0.w.heap.size) : Blk g' b T cs := h.ev he (by
  rintro (hh | hh | hh)
  · exact hM hh
  · exact h.nz hh
  · omega)
theorem Own.evR {M : Nat → Prop} {g g' : Gw} {base : Nat} {a : Option Addr} {n cap sz T : Nat} (h : Own g base a n cap sz T) (he : EvR M g.w.heap.size g.w.heap.size g g') (hM : ∀ b, blkOf a b → base ≤ b → ¬ M b) : Own g' base a n cap sz T := h.ev he fun b hb hbb hh => by
  have := h.blk_lt b hb
  rcases hh with hh | hh | hh
  · exact hM b hb hbb hh
  · omega
  · omega
theorem Cods.nz {T : Nat} {g : Gw} {pc B : Nat} (h : Cods T g pc) : ¬ (B ≤ pc ∧ 0 < g.F pc) := by
  obtain ⟨la, ln, lc, bs, i, hb, _⟩ := h
  exact hb.nz
theorem Cods.evR {M : Nat → Prop} {B : Nat} {T : Nat} {g g' : Gw} {pc : Nat} (h : Cods T g pc) (he : EvR M B g.w.heap.size g g') (hM : ¬ M pc) : Cods T g' pc := h.ev he (by
  have := h.lt
  rintro (hh | hh | hh)
  · exact hM hh
  · exact h.nz hh
  · omega)
/-- A fact of an operation that runs if c holds. -/
def fIf (c : Bool) (T : Fact) : Fact := fun v g => (c = true → T v g) ∧ (c = false → v = undef)
theorem fIf.stab {c : Bool} {T : Fact} {R : Gw → Gw → Prop} {J : Gw → Prop} (h : ∀ v g g', T v g → R g g' → J g' → T v g') : ∀ v g g', fIf c T v g → R g g' → J g' → fIf c T v g' := fun v g g' ⟨h1, h2⟩ hr hj => ⟨fun hc => h v g g' (h1 hc) hr hj, h2⟩
/-- A row of the statement's own, to which may be appended. -/
def fAp {α : Type} (B n E sz : Nat) (f : α → List Value) (xs : List α) : Fact := fun v g => ∃ a c, v = .slice a n c ∧ FSf g a n c sz f xs ∧ Own g B a n c sz E ∧ (n = 0 → a = none)
/-- A row that is read. -/
def fRow {α : Type} (n sz : Nat) (f : α → List Value) (xs : List α) : Fact := fun v g => ∃ a c, v = .slice a n c ∧ FSf g a n c sz f xs
theorem fAp.stab0 {α : Type} {M : Nat → Prop} {B n E sz : Nat} {f : α → List Value} {xs : List α} {J : Gw → Prop} (hM : ∀ b, B ≤ b → ¬ M b) : ∀ v g g', fAp B n E sz f xs v g → Ev M g g' → J g' → fAp B n E sz f xs v g' := fun _ _ _ ⟨a, c, h1, h2, h3, h4⟩ he _ => ⟨a, c, h1, h2.ev he, h3.ev he (fun b _ hb => hM b hb), h4⟩
theorem fAp.stabV {α : Type} {B B' T n E sz : Nat} {f : α → List Value} {xs : List α} {J : Gw → Prop} (hsz : Nat.blt 0 sz = true) : ∀ v g g', fAp B n E sz f xs v g → EvV B' T g g' → J g' → fAp B n E sz f xs v g' := fun _ _ _ ⟨a, c, h1, h2, h3, h4⟩ he _ => ⟨a, c, h1, h2.ev he, h3.ev he (fun b hb _ ⟨_, cs, hB⟩ => by
    rcases h3 with ⟨rfl, _⟩ | ⟨b', cur, rfl, k2, k3, k4, k5, k6, k7⟩
    · simp [blkOf] at hb
    · simp [blkOf] at hb
      subst hb
      have hF := hB.2
      rw [k7] at hF
      rcases Nat.eq_zero_or_pos n with hn | hn
      · exact absurd (h4 hn) (by simp)
      · have := Nat.mul_pos hn (Nat.le_of_ble_eq_true hsz)
        omega), h4⟩
theorem fRow.stab0 {α : Type} {M : Nat → Prop} {n sz : Nat} {f : α → List Value} {xs : List α} {J : Gw → Prop} : ∀ v g g', fRow n sz f xs v g → Ev M g g' → J g' → fRow n sz f xs v g' := fun _ _ _ ⟨a, c, h1, h2⟩ he _ => ⟨a, c, h1, h2.ev he⟩
theorem fRow.stabV {α : Type} {B T n sz : Nat} {f : α → List Value} {xs : List α} {J : Gw → Prop} : ∀ v g g', fRow n sz f xs v g → EvV B T g g' → J g' → fRow n sz f xs v g' := fun _ _ _ ⟨a, c, h1, h2⟩ he _ => ⟨a, c, h1, h2.ev he⟩
theorem fSf.stabV {α : Type} {B T n sz : Nat} {f : α → List Value} {xs : List α} {J : Gw → Prop} : ∀ v g g', fSf n sz f xs v g → EvV B T g g' → J g' → fSf n sz f xs v g' := fun _ _ _ ⟨b, h1, h2⟩ he _ => ⟨b, h1, h2.ev he⟩
theorem fCell.stabV {B T : Nat} {p : Value → Prop} {J : Gw → Prop} : ∀ v g g', fCell p v g → EvV B T g g' → J g' → fCell p v g' := fun _ _ _ ⟨b, i, u, h1, h2, h3, h4⟩ he _ => ⟨b, i, u, h1, Nat.lt_of_lt_of_le h2 (he.mono b), (he.cell b i h2).trans h3, h4⟩
theorem fNew.stab0 {M : Nat → Prop} {B T : Nat} {cs : List Value} {J : Gw → Prop} (hM : ∀ b, B ≤ b → ¬ M b) : ∀ v g g', fNew B T cs v g → Ev M g g' → J g' → fNew B T cs v g' := fun _ _ _ ⟨b, h1, h2, h3⟩ he _ => ⟨b, h1, h2, h3.ev he (hM b h2)⟩
theorem fNew.stabV {B B' T T' : Nat} {cs : List Value} {J : Gw → Prop} (hne : Nat.beq T T' = false) : ∀ v g g', fNew B T cs v g → EvV B' T' g g' → J g' → fNew B T cs v g' := fun _ _ _ ⟨b, h1, h2, h3⟩ he _ => ⟨b, h1, h2, h3.ev he (fun ⟨_, cs', hB⟩ => (h3.ne_ hB hne) rfl)⟩
theorem fRow.stabZ {α : Type} {B n sz : Nat} {f : α → List Value} {xs : List α} {J : Gw → Prop} : ∀ v g g', fRow n sz f xs v g → EvZ B g g' → J g' → fRow n sz f xs v g' := fun _ _ _ ⟨a, c, h1, h2⟩ he _ => ⟨a, c, h1, h2.ev he⟩
theorem fSf.stabZ {α : Type} {B n sz : Nat} {f : α → List Value} {xs : List α} {J : Gw → Prop} : ∀ v g g', fSf n sz f xs v g → EvZ B g g' → J g' → fSf n sz f xs v g' := fun _ _ _ ⟨b, h1, h2⟩ he _ => ⟨b, h1, h2.ev he⟩
theorem fNew.stabZ {B B' T : Nat} {cs : List Value} {J : Gw → Prop} : ∀ v g g', fNew B T cs v g → EvZ B' g g' → J g' → fNew B T cs v g' := fun _ _ _ ⟨b, h1, h2, h3⟩ he _ => ⟨b, h1, h2, h3.ev he h3.nz⟩
theorem fCell.stabZ {B : Nat} {p : Value → Prop} {J : Gw → Prop} : ∀ v g g', fCell p v g → EvZ B g g' → J g' → fCell p v g' := fun _ _ _ ⟨b, i, u, h1, h2, h3, h4⟩ he _ => ⟨b, i, u, h1, Nat.lt_of_lt_of_le h2 (he.mono b), (he.cell b i h2).trans h3, h4⟩
section
variable {P : Program} {e : Env} {g : Gw} {d : Nat} {ty : TypeId} {pos : String} {af : Array Edge} {gd : Option (Nat × Bool)} {J : Gw → Prop} {α : Type}
theorem FSf.app {g' : Gw} {a : Option Addr} {n m cap sz : Nat} {f : α → List Value} {xs ys : List α} (hx : xs.length = n) (hy : ys.length = m) (hf : ∀ x, (f x).length = sz) (h : FSl g' a (n + m) cap sz (xs.flatMap f ++ ys.flatMap f)) : FSf g' a (n + m) cap sz f (xs ++ ys) :=
  FSf.of h f (xs ++ ys) hf (by rw [List.flatMap_append]) (by rw [List.length_append, hx, hy])
/-- A row behind a row of the statement's own. -/
theorem og_app {B n m cap cap2 sz bt : Nat} {a a2 : Option Addr} {t E : TypeId} {x y : Operand} {f : α → List Value} {xs ys : List α} {i : TypeInfo} {z : Value} (hx : ev e x = some (.slice a n cap)) (hy : ev e y = some (.slice a2 m cap2)) (ht : P.underlying t = some (.slice E)) (hi : P.info? E = some i) (hz : i.zero = some z) (hsz : i.size = sz) (hzs : z.cells.size = sz) (hp : Nat.blt 0 sz = true) (hbt : i.bytes = bt)
    (hown : Own g B a n cap sz E) (hfx : FSf g a n cap sz f xs) (hfy : FSf g a2 m cap2 sz f ys) (h0 : n = 0 → a = none) (h1 : ∀ x, ∀ u ∈ f x, u.oneCell' = true) (hlim : (n + m) * bt ≤ 140737488355328) (hlim2 : n + m ≤ 9223372036854775807) (hB : B ≤ g.w.heap.size) (hJ : ∀ g', EvZ B g g' → J g') :
    OgDo P (EvZ B) J (fAp B (n + m) E sz f (xs ++ ys)) ⟨some d, .call ⟨.builtin .append, [x, y].toArray, [t, t].toArray⟩, ty, pos, af, gd⟩ e g := by
  refine og_do (o_app hx hy ht hi hz hsz hzs hp hbt hown hfx.sl hfy.sl (fun u hu => ?_) hlim hlim2 hB) rfl ?_
  · obtain ⟨q, _, hq⟩ := List.mem_flatMap.1 hu
    exact h1 q u hq
  · rintro _ _ ⟨g', a', c', rfl, rfl, hv, hs, ho, hz'⟩
    have hZ : EvZ B g g' := hv.weaken fun b hb => .inl ⟨hown.blk_base b hb, by
      rcases hown with ⟨rfl, _⟩ | ⟨b', cur, rfl, h2, h3, h4, h5, h6, h7⟩
      · simp [blkOf] at hb
      · simp [blkOf] at hb
        subst hb
        rw [h7]
        rcases Nat.eq_zero_or_pos n with hn | hn
        · exact absurd (h0 hn) (by simp)
        · exact Nat.mul_pos hn (Nat.le_of_ble_eq_true hp)⟩
    exact ⟨g', rfl, hZ, hJ _ hZ, a', c', rfl, FSf.app hfx.num hfy.num hfx.cells hs, ho, fun hh => (hz' hh).trans (h0 (by omega))⟩
/-- A row behind nothing: a copy. -/
theorem og_app0 {B m cap2 sz bt : Nat} {a2 : Option Addr} {t E : TypeId} {x y : Operand} {f : α → List Value} {ys : List α} {i : TypeInfo} {z : Value} (hx : ev e x = some (.slice none 0 0)) (hy : ev e y = some (.slice a2 m cap2)) (ht : P.underlying t = some (.slice E)) (hi : P.info? E = some i) (hz : i.zero = some z) (hsz : i.size = sz) (hzs : z.cells.size = sz) (hp : Nat.blt 0 sz = true) (hbt : i.bytes = bt)
    (hfy : FSf g a2 m cap2 sz f ys) (h1 : ∀ x, ∀ u ∈ f x, u.oneCell' = true) (hlim : (0 + m) * bt ≤ 140737488355328) (hlim2 : 0 + m ≤ 9223372036854775807) {M : Nat → Prop} (hB : B ≤ g.w.heap.size) (hJ : ∀ g', Ev Mno g g' → J g') :
    OgDo P (Ev M) J (fAp B m E sz f ys) ⟨some d, .call ⟨.builtin .append, [x, y].toArray, [t, t].toArray⟩, ty, pos, af, gd⟩ e g := by
  refine og_do (o_app hx hy ht hi hz hsz hzs hp hbt (Own.nil g B sz E) (FSl.nil g none 0 sz (Nat.zero_le _)) hfy.sl (fun u hu => ?_) hlim hlim2 hB) rfl ?_
  · obtain ⟨q, _, hq⟩ := List.mem_flatMap.1 hu
    exact h1 q u hq
  · rintro _ _ ⟨g', a', c', rfl, rfl, hv, hs, ho, hz'⟩
    have hZ : Ev Mno g g' := hv.weaken fun b hb => by simp [blkOf] at hb
    rw [Nat.zero_add] at hs ho hz' ⊢
    exact ⟨g', rfl, hZ.of_no, hJ _ hZ, a', c', rfl, FSf.of hs f ys hfy.cells rfl hfy.num, ho, hz'⟩
/-- A store into a variable that the statement made. -/
theorem og_storeV {B T t b i sz : Nat} {x y : Operand} {v : Value} {c0 c1 vs : List Value} {o : Oper} (ho : o = ⟨none, .store t x y, o.type, o.pos, o.after, o.guard⟩) (hx : ev e x = some (.pointer (some ⟨b, i, none⟩))) (hw : viewE o e = some (.pointer (some ⟨b, 0, none⟩))) (hy : ev e y = some v) (hv : v.cells = vs.toArray) (hs : Siz P t sz) (hl : vs.length = sz)
    (hb : Blk g b T c0) (hB : B ≤ b) (h1 : splice c0 vs i = c1) (hi0 : Nat.ble (i + sz) c0.length = true) (hone : ∀ v ∈ vs, v.oneCell' = true) (hJ : ∀ g', EvV B T g g' → J g') : OgDo3 P (EvV B T) J (fNew B T c1) o e g := by
  rw [ho] at hw ⊢
  refine og3_du (o_store hx hy hv hs hl hb (Nat.le_of_ble_eq_true hi0) hone) rfl hw ?_
  rintro _ ⟨g', rfl, hv', hb'⟩
  rw [h1] at hb'
  have hV : EvV B T g g' := hv'.weaken fun k hk => .inl ⟨by rw [hk]; exact hB, c0, by rw [hk]; exact hb⟩
  exact ⟨g', rfl, hV, hJ _ hV, b, rfl, hB, hb'⟩
end
section
variable {P : Program} {R : Gw → Gw → Prop} {J : Gw → Prop} {T : Fact} {l : List Oper} {o : Oper} {e : Env} {g : Gw}
theorem OgDo3.imp {T' : Fact} (h : OgDo3 P R J T o e g) (ht : ∀ v g', T v g' → T' v g') : OgDo3 P R J T' o e g := .mk fun ρ hf => by
  rcases h.go ρ hf with ⟨v, g', h0, h1, h2, h3, h4⟩ | ⟨f, args, h0, h1, hc⟩ | ⟨h0, u, g', hu, h1, h2, h3, h4⟩
  · exact .inl ⟨v, g', h0, h1, h2, h3, ht _ _ h4⟩
  · exact .inr (.inl ⟨f, args, h0, h1, hc.mono fun v w' ⟨g', k1, k2, k3, k4⟩ => ⟨g', k1, k2, k3, ht _ _ k4⟩⟩)
  · exact .inr (.inr ⟨h0, u, g', hu, h1, h2, h3, ht _ _ h4⟩)
/-- An operation under a guard whose truth value is known. -/
theorem gdo_if {x b : Bool} {j t d : Nat} (hg : o.guard = some (j, b)) (hj : (l[j]?).bind (·.dst) = some t) (hd : o.dst = some d) (ht : lk e t = some (.bool x)) (hR : R g g) (h : (x == b) = true → OgDo3 P R J T o e g) : GDo P R J l (fIf (x == b) T) o e g := by
  unfold GDo
  rw [hg]
  simp only [hj]
  refine ⟨by rw [hd]; simp, .bool x, ht, fun hb => ?_, fun hb => ⟨hR, ?_⟩⟩
  · have hxb : x = b := by simpa [boolOf] using hb
    subst hxb
    exact (h (by simp)).imp fun v g' hv => ⟨fun _ => hv, fun hc => by simp at hc⟩
  · have hxb : ¬ x = b := by simpa [boolOf] using hb
    have : (x == b) = false := by simp [hxb]
    exact ⟨(fun hc => by rw [this] at hc; cases hc), fun _ => rfl⟩
end
end Go.Eng
