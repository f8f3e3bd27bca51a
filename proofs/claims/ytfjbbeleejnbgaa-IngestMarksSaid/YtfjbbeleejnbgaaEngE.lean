/- A statement whose order is open, operation by operation: each has a fact on its value that lasts; the operations that stand behind all others are walked one after the other. No program is named here. -/
import Derived.Test.YtfjbbeleejnbgaaEngD
set_option linter.unusedSimpArgs false
set_option linter.unusedVariables false
namespace Go.Eng

/-- What a step may do, step by step. -/
structure Pre (R : Gw → Gw → Prop) : Prop where
  refl : ∀ g, R g g
  trans : ∀ a b c, R a b → R b c → R a c
theorem Ev.pre (M : Nat → Prop) : Pre (Ev M) := ⟨Ev.refl M, fun _ _ _ h k => h.trans k⟩
theorem Ev.draw0 (M : Nat → Prop) (g : Gw) : Ev M g g.draw := g.draw_ev.of_no
abbrev Fact := Value → Gw → Prop

/-- What the operations behind all others want: each waits for all before it. -/
def tailB (m : Nat) (l : List Oper) : Bool := (List.range l.length).all fun k => Nat.blt k m || (List.range k).all fun j => memB j (deps l.toArray k)

/-- What an operation's slot holds; an operation without one gives no value. -/
def dv (o : Oper) (v : Value) : Value := match o.dst with
  | some _ => v
  | none => undef
def slv (o : Oper) (a : Act) : Value := match o.dst with
  | some d => a.tmps.getD d undef
  | none => undef
/-- An operation in a world g of the statement, at a list of slots: it keeps M and J; its value has the fact T. -/
structure OgDo (P : Program) (R : Gw → Gw → Prop) (J : Gw → Prop) (T : Fact) (o : Oper) (e : Env) (g : Gw) : Prop where
  go : ∀ ρ, Fits e ρ →
    (∃ v g', (execOp ρ o).run P g.w = .ok (.value v) g'.w ∧ R g g' ∧ J g' ∧ T (dv o v) g') ∨ (∃ f args, (execOp ρ o).run P g.w = .ok (.enter f args) g.w ∧ CallsV P f args g.w (fun v w' => ∃ g', g'.w = w' ∧ R g g' ∧ J g' ∧ T (dv o v) g')) ∨
    (o.dst = none ∧ ∃ g', (execOp ρ o).run P g.w = .ok .skip g'.w ∧ R g g' ∧ J g' ∧ T undef g')

/-- With the values of what stands before it. -/
def withD : List (Option Nat × Fact) → Env → Gw → (Env → Prop) → Prop
  | [], e, _, K => K e
  | (some d, T) :: r, e, g, K => ∀ v, T v g → withD r ((d, v) :: e) g K
  | (none, T) :: r, e, g, K => T undef g → withD r e g K
/-- The slots, and the facts, of some operations. -/
def slotsOf (l : List Oper) (Ts : List Fact) : List Nat → List (Option Nat × Fact)
  | [] => []
  | j :: r => match l[j]? with
    | some o => match Ts[j]? with
      | some T => (o.dst, T) :: slotsOf l Ts r
      | none => slotsOf l Ts r
    | none => slotsOf l Ts r
theorem withD_spec {l : List Oper} {Ts : List Fact} {g : Gw} {n : Nat} {a : Act} {K : Env → Prop} : ∀ (js : List Nat) (e : Env), Sat n e a → (∀ j ∈ js, ∀ o T, l[j]? = some o → Ts[j]? = some T → T (slv o a) g) →
    withD (slotsOf l Ts js) e g K → ∃ e', Sat n e' a ∧ K e'
  | [], e, hs, _, h => ⟨e, hs, h⟩
  | j :: r, e, hs, hT, h => by
    simp only [slotsOf] at h
    have hr := fun x (hx : x ∈ r) => hT x (List.mem_cons_of_mem _ hx)
    cases hj : l[j]? with
    | none => rw [hj] at h; exact withD_spec r e hs hr h
    | some o =>
      rw [hj] at h
      simp only [] at h
      cases hq : Ts[j]? with
      | none => rw [hq] at h; exact withD_spec r e hs hr h
      | some T =>
        rw [hq] at h
        simp only [] at h
        have hh := hT j (List.mem_cons_self ..) o T hj hq
        unfold slv at hh
        cases hd : o.dst with
        | none =>
          rw [hd] at h hh
          exact withD_spec r e hs hr (h hh)
        | some d =>
          rw [hd] at h hh
          have h1 := h (a.tmps.getD d undef) hh
          refine withD_spec r _ ⟨hs.size, hs.defers, fun t v ht => ?_⟩ hr h1
          rw [lk_cons] at ht
          by_cases hdt : d = t
          · subst hdt
            rw [if_pos rfl] at ht
            injection ht
          · rw [if_neg hdt] at ht
            exact hs.get t v ht

/-- The obligations, one for each operation. -/
def obl (P : Program) (R : Gw → Gw → Prop) (J : Gw → Prop) (l : List Oper) (Ts : List Fact) (e : Env) (g0 : Gw) : Nat → List Oper → List Fact → Prop
  | _, [], [] => True
  | k, o :: r, T :: s => (o.guard = none ∧ ∀ g, R g0 g → J g → withD (slotsOf l Ts (deps l.toArray k)) e g fun e' => OgDo P R J T o e' g) ∧ obl P R J l Ts e g0 (k + 1) r s
  | _, _, _ => False
theorem obl_spec {P : Program} {R : Gw → Gw → Prop} {J : Gw → Prop} {l : List Oper} {Ts : List Fact} {e : Env} {g0 : Gw} : ∀ (p : List Oper) (s : List Fact) (k : Nat), obl P R J l Ts e g0 k p s →
    p.length = s.length ∧ ∀ i o T, p[i]? = some o → s[i]? = some T → o.guard = none ∧ ∀ g, R g0 g → J g → withD (slotsOf l Ts (deps l.toArray (k + i))) e g fun e' => OgDo P R J T o e' g
  | [], [], _, _ => ⟨rfl, fun i o T h => by simp at h⟩
  | [], _ :: _, _, h => h.elim
  | _ :: _, [], _, h => h.elim
  | o :: r, T :: s, k, ⟨h1, h2⟩ => by
    obtain ⟨hl, hr⟩ := obl_spec r s (k + 1) h2
    refine ⟨by simp [hl], fun i o' T' ho hT => ?_⟩
    cases i with
    | zero =>
      simp at ho hT
      subst ho; subst hT
      exact h1
    | succ i =>
      simp at ho hT
      have := hr i o' T' ho hT
      rwa [show k + 1 + i = k + (i + 1) from by omega] at this

/-- The facts of a list of values. -/
def factsOf : List Fact → List Value → Gw → Prop
  | [], [], _ => True
  | T :: s, v :: vs, g => T v g ∧ factsOf s vs g
  | _, _, _ => False
theorem factsOf_mk {g : Gw} : ∀ (s : List Fact) (vs : List Value), s.length = vs.length → (∀ (i : Nat) (T : Fact) (v : Value), s[i]? = some T → vs[i]? = some v → T v g) → factsOf s vs g
  | [], [], _, _ => trivial
  | [], _ :: _, h, _ => by simp at h
  | _ :: _, [], h, _ => by simp at h
  | T :: s, v :: vs, h, hT => ⟨hT 0 T v rfl rfl, factsOf_mk s vs (by simpa using h) fun i T' v' h1 h2 => hT (i + 1) T' v' (by simpa using h1) (by simpa using h2)⟩
theorem factsOf.cons {T : Fact} {s : List Fact} {vs : List Value} {g : Gw} (h : factsOf (T :: s) vs g) : ∃ v r, vs = v :: r ∧ T v g ∧ factsOf s r g := by
  cases vs with
  | nil => exact h.elim
  | cons v r => exact ⟨v, r, rfl, h.1, h.2⟩
theorem factsOf.nil {vs : List Value} {g : Gw} (h : factsOf [] vs g) : vs = [] := by
  cases vs with
  | nil => rfl
  | cons v r => exact h.elim

section og
variable {P : Program} {n : Nat} {Q : Exit → Act → World → Prop} {R : Gw → Gw → Prop} {J : Gw → Prop}

/-- The tail: each operation waits for all before it, so no other may come up. -/
theorem wpAny_tail {l : List Oper} {m : Nat} (hreg : regB n l = true) (ht : tailB m l = true) : ∀ (t : List Oper) (k fuel : Nat) (L : Array Bool) (a : Act) (w : World), m ≤ k → l.drop k = t → L.size = l.length → (∀ i, i < l.length → L[i]? = some (decide (i < k))) →
    t.length ≤ fuel → wpList P l.toArray Q t a w → wpAny P .any l.toArray Q fuel L a w := by
  have hback : ∀ k (hk : k < l.length), ∀ x ∈ l[k].after, Region.binds .any x = true → x.on < k := by
    intro k hk x hx hb
    simp only [regB, Bool.and_eq_true] at hreg
    have := (List.all_eq_true.1 hreg.2) k (by simp [hk])
    have hd : x.on ∈ deps l.toArray k := by
      unfold deps
      have hok : l.toArray[k]? = some l[k] := by simp [hk]
      rw [hok]
      simp only [List.mem_map, List.mem_filter]
      exact ⟨x, ⟨by simpa using hx, hb⟩, rfl⟩
    have := Nat.le_of_ble_eq_true ((List.all_eq_true.1 this) _ hd)
    omega
  intro t
  induction t with
  | nil =>
    intro k fuel L a w hm hd hs hL hf h
    have hk : l.length ≤ k := by simpa using hd
    have hr : Region.ready .any l.toArray L = [] := by
      unfold Region.ready
      rw [List.filter_eq_nil_iff]
      intro i hi
      have hi' : i < l.length := by simpa using hi
      have := hL i hi'
      rw [decide_eq_true (by omega)] at this
      simp [Array.getD_eq_getD_getElem?, this]
    cases fuel with
    | zero => exact ⟨hr, h⟩
    | succ fuel => exact ⟨fun _ => h, fun i hi => by rw [hr] at hi; cases hi⟩
  | cons o t ih =>
    intro k fuel L a w hm hd hs hL hf h
    cases fuel with
    | zero => simp at hf
    | succ fuel =>
      have hk : k < l.length := by
        rcases Nat.lt_or_ge k l.length with hh | hh
        · exact hh
        · rw [List.drop_eq_nil_of_le hh] at hd; cases hd
      have hdk := List.drop_eq_getElem_cons hk
      rw [hdk] at hd
      injection hd with ho hd'
      have hready : ∀ i, i ∈ Region.ready .any l.toArray L → i = k := by
        intro i hi
        unfold Region.ready at hi
        rw [List.mem_filter] at hi
        obtain ⟨hir, hi2⟩ := hi
        have hil : i < l.length := by simpa using hir
        simp only [Bool.and_eq_true, Bool.not_eq_true'] at hi2
        obtain ⟨h1, h2⟩ := hi2
        rw [Array.getD_eq_getD_getElem?, hL i hil] at h1
        simp at h1
        rcases Nat.lt_or_ge k i with hki | hki
        · exfalso
          have := (List.all_eq_true.1 ht) i (by simp [hil])
          simp only [Bool.or_eq_true] at this
          rcases this with hb | hb
          · have := Nat.le_of_ble_eq_true hb
            omega
          · have hmem := memB_iff.1 ((List.all_eq_true.1 hb) k (by simp [hki]))
            unfold deps at hmem
            have hoi : l.toArray[i]? = some l[i] := by simp [hil]
            rw [hoi] at h2 hmem
            simp only [Option.map_some, Option.getD_some] at h2
            rw [Array.all_eq_true_iff_forall_mem] at h2
            simp only [List.mem_map, List.mem_filter] at hmem
            obtain ⟨x, ⟨hx, hb'⟩, hxk⟩ := hmem
            have := h2 x (by simpa using hx)
            rw [hb'] at this
            simp only [Bool.not_true, Bool.false_or] at this
            rw [hxk, Array.getD_eq_getD_getElem?, hL k hk] at this
            simp at this
        · omega
      refine ⟨fun hr => ?_, fun i hi => ?_⟩
      · exfalso
        have hin : k ∈ Region.ready .any l.toArray L := by
          unfold Region.ready
          rw [List.mem_filter]
          refine ⟨by simp [hk], ?_⟩
          rw [Array.getD_eq_getD_getElem?, hL k hk]
          have hok : l.toArray[k]? = some l[k] := by simp [hk]
          rw [hok]
          simp only [Nat.lt_irrefl, decide_false, Option.getD_some, Bool.not_false, Bool.true_and, Option.map_some]
          rw [Array.all_eq_true_iff_forall_mem]
          intro x hx
          cases hb : Region.binds .any x with
          | false => simp
          | true =>
            have hxl : x.on < k ∨ ¬ x.on < k := Decidable.em _
            rcases hxl with hxl | hxl
            · have := hL x.on (by omega)
              rw [decide_eq_true hxl] at this
              simp [Array.getD_eq_getD_getElem?, this]
            · exfalso
              exact hxl (hback k hk x (by simpa using hx) hb)
        rw [hr] at hin
        cases hin
      · have := hready i hi
        subst this
        unfold wpOp
        have hok : l.toArray[i]? = some l[i] := by simp [hk]
        rw [hok]
        simp only []
        rw [ho]
        unfold wpList at h
        have hnext : ∀ a w, wpList P l.toArray Q t a w → wpAny P .any l.toArray Q fuel (L.setIfInBounds i true) a w := fun a w hh => by
          refine ih (i + 1) fuel _ a w (by omega) hd' (by simp [hs]) (fun j hj => ?_) (by simpa using hf) hh
          by_cases hij : i = j
          · subst hij
            rw [Array.getElem?_setIfInBounds_self_of_lt (by omega)]
            simp
          · rw [Array.getElem?_setIfInBounds_ne hij, hL j hj]
            congr 1
            simp only [decide_eq_decide]
            omega
        split at h
        · rename_i hw
          rw [if_pos hw]
          exact h.imp (Oper.wp_mono hnext) id
        · rename_i hw
          rw [if_neg hw]
          exact hnext _ _ h

structure OgInv2 (n : Nat) (l : List Oper) (m : Nat) (R : Gw → Gw → Prop) (J : Gw → Prop) (T : Nat → Fact) (e0 : Env) (g0 : Gw) (L : Array Bool) (a : Act) (g : Gw) : Prop where
  ev : R g0 g
  j : J g
  sat : Sat n e0 a
  facts : ∀ k o, k < m → L[k]? = some true → l[k]? = some o → T k (slv o a) g

/-- What an operation does in a world of the statement: it keeps M and J, and its value has the fact Tk. -/
def StepOK2 (P : Program) (ops : Array Oper) (Q : Exit → Act → World → Prop) (R : Gw → Gw → Prop) (J : Gw → Prop) (Tk : Fact) (o : Oper) (a : Act) (g : Gw) : Prop :=
  if Region.wanted o (yielded ops a.tmps) then o.wp P a g.w (fun a' w' => ∃ g' v, g'.w = w' ∧ R g g' ∧ J g' ∧ a' = a.put o.dst v ∧ Tk (dv o v) g') Q
  else Tk undef g

/-- The operations before the tail, in whatever order; then the tail. -/
theorem wpAny_ogt {l : List Oper} {m : Nat} {T : Nat → Fact} {e0 : Env} {g0 : Gw} (hR : Pre R) (hreg : regB n l = true) (ht : tailB m l = true) (hm : m ≤ l.length) (he : ∀ d ∈ dsts (l.take m), lk e0 d = none) (hstab : ∀ k, k < m → ∀ v g g', T k v g → R g g' → J g' → T k v g')
    (hstep : ∀ k o, k < m → l[k]? = some o → ∀ a g, R g0 g → J g → Sat n e0 a → (∀ j ∈ deps l.toArray k, ∀ oj, l[j]? = some oj → T j (slv oj a) g) → StepOK2 P l.toArray Q R J (T k) o a g)
    (hfin : ∀ a g, R g0 g → J g → Sat n e0 a → (∀ k o, k < m → l[k]? = some o → T k (slv o a) g) → wpList P l.toArray Q (l.drop m) a g.w) :
    ∀ (fuel : Nat) (L : Array Bool) (a : Act) (g : Gw), L.toList.count false ≤ fuel → OgInv2 n l m R J T e0 g0 L a g → L.size = l.length → (∀ i, m ≤ i → i < l.length → L[i]? = some false) → wpAny P .any l.toArray Q fuel L a g.w := by
  have hreg' := hreg
  simp only [regB, Bool.and_eq_true] at hreg'
  obtain ⟨⟨hdis, hlt⟩, hedge⟩ := hreg'
  intro fuel
  induction fuel with
  | zero =>
    intro L a g hc hI hs hL
    have hml : m = l.length := by
      rcases Nat.lt_or_ge m l.length with hh | hh
      · exfalso
        have := hL m (Nat.le_refl _) hh
        have hmem : false ∈ L.toList := by
          have := Array.mem_of_getElem? this
          simpa using this
        have := List.count_pos_iff.2 hmem
        omega
      · omega
    have hall : ∀ i, i < l.length → L[i]? = some (decide (i < m)) := by
      intro i hi
      have hiL : i < L.size := by omega
      rw [decide_eq_true (by omega)]
      cases hb : L[i] with
      | true => rw [Array.getElem?_eq_getElem hiL, hb]
      | false =>
        exfalso
        have hmem : false ∈ L.toList := by rw [← hb]; simp
        have := List.count_pos_iff.2 hmem
        omega
    refine wpAny_tail hreg ht (l.drop m) m 0 L a g.w (Nat.le_refl _) rfl hs hall (by simp; omega) (hfin a g hI.ev hI.j hI.sat fun k o hk ho => hI.facts k o hk ?_ ho)
    have := hall k (by omega)
    rwa [decide_eq_true hk] at this
  | succ fuel ih =>
    intro L a g hc hI hs hL
    by_cases hdone : ∀ i, i < m → L[i]? = some true
    · -- the first part is done
      have hall : ∀ i, i < l.length → L[i]? = some (decide (i < m)) := by
        intro i hi
        by_cases him : i < m
        · rw [decide_eq_true him]; exact hdone i him
        · rw [decide_eq_false him]; exact hL i (by omega) hi
      have hcnt : (l.drop m).length ≤ fuel + 1 := by
        have hsub : ((L.toList.drop m).count false) ≤ L.toList.count false := List.Sublist.count_le false (List.drop_sublist m _)
        have hrep : L.toList.drop m = List.replicate (l.length - m) false := by
          apply List.ext_getElem?
          intro i
          rw [List.getElem?_drop]
          by_cases hi : i < l.length - m
          · have := hL (m + i) (by omega) (by omega)
            rw [List.getElem?_replicate, if_pos hi]
            simpa using this
          · rw [List.getElem?_replicate, if_neg hi, List.getElem?_eq_none]
            simp; omega
        rw [hrep, List.count_replicate_self] at hsub
        simp; omega
      exact wpAny_tail hreg ht (l.drop m) m (fuel + 1) L a g.w (Nat.le_refl _) rfl hs hall hcnt (hfin a g hI.ev hI.j hI.sat fun k o hk ho => hI.facts k o hk (hdone k hk) ho)
    · -- something of the first part is open: the least such operation may come up, and none of the tail may
      have hopen : ∃ i, i < m ∧ L[i]? = some false := by
        rw [Classical.not_forall] at hdone
        obtain ⟨i, hi⟩ := hdone
        rw [Classical.not_imp] at hi
        obtain ⟨him, hi⟩ := hi
        refine ⟨i, him, ?_⟩
        have hiL : i < L.size := by omega
        rw [Array.getElem?_eq_getElem hiL] at hi ⊢
        cases hb : L[i] with
        | true => rw [hb] at hi; exact absurd rfl hi
        | false => rfl
      refine ⟨fun hr => ?_, fun k hk => ?_⟩
      · exfalso
        have key : ∀ k, k < m → L[k]? = some true := by
          intro k
          induction k using Nat.strongRecOn with
          | _ k ihk =>
            intro hk
            have hkL : k < L.size := by omega
            have hkl : k < l.length := by omega
            cases hb : L[k] with
            | true => rw [Array.getElem?_eq_getElem hkL, hb]
            | false =>
              exfalso
              have : k ∈ Region.ready .any l.toArray L := by
                unfold Region.ready
                rw [List.mem_filter]
                refine ⟨by simp [hkl], ?_⟩
                have hLD : L.getD k true = false := by simp [Array.getD_eq_getD_getElem?, hkL, hb]
                rw [hLD]
                simp only [Bool.not_false, Bool.true_and]
                have hok : l.toArray[k]? = some l[k] := by simp [hkl]
                rw [hok]
                simp only [Option.map_some, Option.getD_some]
                rw [Array.all_eq_true_iff_forall_mem]
                intro x hx
                cases hbb : Region.binds .any x with
                | false => simp
                | true =>
                  have hd : x.on ∈ deps l.toArray k := by
                    unfold deps
                    rw [hok]
                    simp only [List.mem_map, List.mem_filter]
                    exact ⟨x, ⟨by simpa using hx, hbb⟩, rfl⟩
                  have hxk := (List.all_eq_true.1 ((List.all_eq_true.1 hedge) k (by simp [hkl]))) _ hd
                  have hxk' : x.on < k := by
                    have := Nat.le_of_ble_eq_true hxk
                    omega
                  have := ihk x.on hxk' (by omega)
                  simp [Array.getD_eq_getD_getElem?, this]
              rw [hr] at this
              cases this
        obtain ⟨i, him, hi⟩ := hopen
        rw [key i him] at hi
        cases hi
      · unfold Region.ready at hk
        rw [List.mem_filter] at hk
        obtain ⟨hkr, hk⟩ := hk
        have hkl : k < l.length := by simpa using hkr
        simp only [Bool.and_eq_true, Bool.not_eq_true'] at hk
        obtain ⟨hLk, haft⟩ := hk
        have hkL : k < L.size := by omega
        have hLf : L[k]? = some false := by
          rw [Array.getD_eq_getD_getElem?] at hLk
          rw [Array.getElem?_eq_getElem hkL] at hLk ⊢
          simpa using hLk
        have hok : l.toArray[k]? = some l[k] := by simp [hkl]
        have hokl : l[k]? = some l[k] := by simp [hkl]
        have hdeps : ∀ j ∈ deps l.toArray k, L[j]? = some true := by
          intro j hj
          rw [hok] at haft
          simp only [Option.map_some, Option.getD_some] at haft
          rw [Array.all_eq_true_iff_forall_mem] at haft
          unfold deps at hj
          rw [hok] at hj
          simp only [List.mem_map, List.mem_filter] at hj
          obtain ⟨x, ⟨hx, hb⟩, rfl⟩ := hj
          have := haft x (by simpa using hx)
          rw [hb] at this
          simp only [Bool.not_true, Bool.false_or] at this
          rw [Array.getD_eq_getD_getElem?] at this
          cases hq : L[x.on]? with
          | none => rw [hq] at this; cases this
          | some b => rw [hq] at this; simp at this; rw [this]
        have hkm : k < m := by
          rcases Nat.lt_or_ge k m with h | h
          · exact h
          · exfalso
            obtain ⟨i, him, hi⟩ := hopen
            have := (List.all_eq_true.1 ht) k (by simp [hkl])
            simp only [Bool.or_eq_true] at this
            rcases this with hb | hb
            · have := Nat.le_of_ble_eq_true hb
              omega
            · have hmem := memB_iff.1 ((List.all_eq_true.1 hb) i (by simp; omega))
              rw [hdeps i hmem] at hi
              cases hi
        have hdlt : ∀ j ∈ deps l.toArray k, j < k := by
          intro j hj
          have := Nat.le_of_ble_eq_true ((List.all_eq_true.1 ((List.all_eq_true.1 hedge) k (by simp [hkl]))) _ hj)
          omega
        have hS := hstep k l[k] hkm hokl a g hI.ev hI.j hI.sat (fun j hj oj h1 => hI.facts j oj (by have := hdlt j hj; omega) (hdeps j hj) h1)
        have hnext : ∀ v g', R g g' → J g' → T k (dv l[k] v) g' → wpAny P .any l.toArray Q fuel (L.setIfInBounds k true) (a.put l[k].dst v) g'.w := by
          intro v g' hev hj hT
          refine ih _ _ _ ?_ ⟨hR.trans _ _ _ hI.ev hev, hj, ?_, ?_⟩ (by simp [hs]) (fun i hi hil => by
            rw [Array.getElem?_setIfInBounds_ne (by omega)]; exact hL i hi hil)
          · have h1 : (L.setIfInBounds k true).toList = L.toList.set k true := by simp
            rw [h1, List.count_set (by simpa using hkL)]
            have hg : L.toList[k]'(by simpa using hkL) = false := by
              rw [Array.getElem?_eq_getElem hkL] at hLf
              simpa using hLf
            rw [hg]
            have hcc : Array.count false L = L.toList.count false := by simp
            simp
            omega
          · cases hd : l[k].dst with
            | none => exact hI.sat
            | some d => exact hI.sat.put_other (he d (mem_dsts (l := l.take m) (j := k) (by rw [List.getElem?_take, if_pos hkm]; exact hokl) hd)) v
          · intro j o hjm hLj hjo'
            by_cases hjk : k = j
            · subst hjk
              rw [hokl] at hjo'
              injection hjo' with hjo'
              subst hjo'
              have : slv l[k] (a.put l[k].dst v) = dv l[k] v := by
                unfold slv dv
                cases hdj : l[k].dst with
                | none => rfl
                | some d =>
                  have hdn : d < n := by
                    have h1 := (List.all_eq_true.1 hlt) d (mem_dsts hokl hdj)
                    exact Nat.le_of_ble_eq_true h1
                  simp [Act.put, Array.getD, hI.sat.size, hdn]
              rw [this]
              exact hT
            · have hLj' : L[j]? = some true := by rwa [Array.getElem?_setIfInBounds_ne hjk] at hLj
              have hf := hI.facts j o hjm hLj' hjo'
              have : slv o (a.put l[k].dst v) = slv o a := by
                unfold slv
                cases hdj : o.dst with
                | none => rfl
                | some d =>
                  cases hd : l[k].dst with
                  | none => rfl
                  | some d' =>
                    have hne : d' ≠ d := fun hh => by
                      subst hh
                      exact hjk (distinct_spec hdis hokl hjo' hd hdj)
                    simp only [Act.put, Array.getD_eq_getD_getElem?]
                    rw [Array.getElem?_setIfInBounds_ne hne]
              rw [this]
              exact hstab j hjm _ _ _ hf hev hj
        unfold wpOp
        rw [hok]
        simp only []
        unfold StepOK2 at hS
        split at hS
        · rename_i hw
          rw [if_pos hw]
          left
          refine Oper.wp_mono (fun a' w' h => ?_) hS
          obtain ⟨g', v, rfl, h1, h2, rfl, h3⟩ := h
          exact hnext v g' h1 h2 h3
        · rename_i hw
          rw [if_neg hw]
          refine hnext undef g (hR.refl _) hI.j ?_
          have : dv l[k] undef = undef := by unfold dv; cases l[k].dst <;> rfl
          rw [this]; exact hS

/-- A statement whose order is open: facts Ts of the first operations' values, then the rest one after the other. -/
theorem c_ogt {id : Nat} {l p : List Oper} {e : Env} {g0 : Gw} (R : Gw → Gw → Prop) (hR : Pre R) (h0 : R g0 g0.draw) (J : Gw → Prop) (Ts : List Fact) (m : Nat) (hm : P.follows .mixedOrders = true) (hreg : regB n l = true) (ht : tailB m l = true) (hml : Nat.ble m l.length = true) (hp : l.take m = p) (hJ : J g0.draw)
    (hstab : ∀ T ∈ Ts, ∀ v g g', T v g → R g g' → J g' → T v g')
    (hob : obl P R J l Ts (drp (dsts p) e) g0 0 p Ts)
    (hfin : ∀ g vs, R g0 g → J g → factsOf Ts vs g → wpL P n l.toArray Q (l.drop m) (putsE p vs (drp (dsts p) e)) g.w) :
    wpC P n (.region id l.toArray true) Q e g0.w := by
  intro a ha
  refine wp_region_any hm ?_
  subst hp
  obtain ⟨hlen, hob'⟩ := obl_spec _ _ _ hob
  have hml' := Nat.le_of_ble_eq_true hml
  have hTl : Ts.length = m := by rw [← hlen]; simp; omega
  have hreg' := hreg
  simp only [regB, Bool.and_eq_true] at hreg'
  obtain ⟨⟨hdis, hlt⟩, hedge⟩ := hreg'
  refine wpAny_ogt (m := m) (T := fun k v g => ∀ T, Ts[k]? = some T → T v g) (e0 := drp (dsts (l.take m)) e) (g0 := g0) hR hreg ht hml' (fun d hd => lk_drp hd e) ?_ ?_ ?_ _ _ a g0.draw (by simp) ⟨h0, hJ, Sub.drp.sat ha, ?_⟩ (by simp) ?_
  · intro k _ v g g' h1 hev hj T hT
    exact hstab T (List.mem_of_getElem? hT) v g g' (h1 T hT) hev hj
  · intro k o hk ho a g hev hj hsat hdep
    obtain ⟨T, hT⟩ : ∃ T, Ts[k]? = some T := ⟨Ts[k]'(by omega), List.getElem?_eq_getElem (by omega)⟩
    obtain ⟨hg, hw⟩ := hob' k o T (by rw [List.getElem?_take, if_pos hk]; exact ho) hT
    rw [Nat.zero_add] at hw
    obtain ⟨e', hs', hdo⟩ := withD_spec _ _ hsat (fun j hj o' T' h1 h3 => hdep j hj o' h1 T' h3) (hw g hev hj)
    unfold StepOK2
    rw [if_pos (by simp [Region.wanted, hg])]
    unfold Oper.wp
    rcases hdo.go a.eval hs'.fits with ⟨v, g', hr, h1, h2, h3⟩ | ⟨f, args, hr, hc⟩ | ⟨hd0, g', hr, h1, h2, h3⟩
    · rw [hr, Oper.upon_value]
      exact ⟨g', v, rfl, h1, h2, rfl, fun T' hT' => by rw [hT] at hT'; injection hT' with hT'; subst hT'; exact h3⟩
    · rw [hr, Oper.upon_enter]
      refine Calls.mono hc ?_
      rintro _ w' ⟨v, rfl, g', rfl, h1, h2, h3⟩
      exact ⟨g', v, rfl, h1, h2, rfl, fun T' hT' => by rw [hT] at hT'; injection hT' with hT'; subst hT'; exact h3⟩
    · rw [hr, Oper.upon_skip]
      refine ⟨g', undef, rfl, h1, h2, rfl, fun T' hT' => ?_⟩
      rw [hT] at hT'; injection hT' with hT'; subst hT'
      have : dv o undef = undef := by unfold dv; cases o.dst <;> rfl
      rw [this]; exact h3
  · intro a g hev hj hsat hall
    -- the values of the first operations
    let vs : List Value := (l.take m).map fun o => slv o a
    have hvl : vs.length = m := by simp [vs]; omega
    refine hfin g vs hev hj (factsOf_mk _ _ (by omega) fun i T v hT hv => ?_) a ⟨hsat.size, hsat.defers, fun t u hu => ?_⟩
    · have him : i < m := by rw [← hTl]; exact (List.getElem?_eq_some_iff.1 hT).1
      have hil : i < l.length := by omega
      have hoi : l[i]? = some l[i] := by simp [hil]
      have hoi' : (l.take m)[i]? = some l[i] := by rw [List.getElem?_take, if_pos him]; exact hoi
      have := hall i l[i] him hoi T hT
      have hvi : vs[i]? = some (slv l[i] a) := by
        simp only [vs, List.getElem?_map, hoi', Option.map_some]
      rw [hv] at hvi
      injection hvi with hvi
      rw [hvi]; exact this
    · have hdt : distinctB (l.take m) = true := by
        have aux : ∀ (q : List Oper) (k : Nat), distinctB q = true → distinctB (q.take k) = true := by
          intro q
          induction q with
          | nil => intro k _; simp [distinctB]
          | cons y s ih =>
            intro k hq
            cases k with
            | zero => rfl
            | succ k =>
              simp only [List.take_succ_cons, distinctB, Bool.and_eq_true] at hq ⊢
              refine ⟨?_, ih k hq.2⟩
              cases hy : y.dst with
              | none => rfl
              | some d0 =>
                have h1 := hq.1
                rw [hy] at h1
                simp only [Bool.not_eq_true'] at h1 ⊢
                cases hm' : memB d0 (dsts (s.take k)) with
                | false => rfl
                | true =>
                  rw [memB_iff] at hm'
                  unfold dsts at hm'
                  rw [List.mem_filterMap] at hm'
                  obtain ⟨z, hz, hzd⟩ := hm'
                  have : d0 ∈ dsts s := by
                    unfold dsts
                    rw [List.mem_filterMap]
                    exact ⟨z, List.mem_of_mem_take hz, hzd⟩
                  rw [memB_iff.2 this] at h1
                  cases h1
        exact aux l m hdis
      by_cases htd : t ∈ dsts (l.take m)
      · unfold dsts at htd
        rw [List.mem_filterMap] at htd
        obtain ⟨o, ho, hd⟩ := htd
        obtain ⟨j, hj'⟩ := List.mem_iff_getElem?.1 ho
        have hvj : vs[j]? = some (a.tmps.getD t undef) := by
          simp only [vs, List.getElem?_map, hj', Option.map_some, slv, hd]
        rw [lk_putsE_at (l.take m) vs _ j o t _ hdt hj' hvj hd] at hu
        injection hu
      · rw [lk_putsE_not _ _ _ htd] at hu
        exact hsat.get t u hu
  · intro k o _ hk
    simp [Array.getElem?_replicate] at hk
  · intro i _ hi
    simp [hi]
end og
end Go.Eng
