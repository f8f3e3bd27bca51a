/- Statements whose order of operations is open: whatever each operation gives, of what it gives a fact is known that lasts; then the facts hold behind the statement in every order. And the case in which each operation's value is fixed. No program is named here. -/
import Derived.Test.YtfjbbeleejnbgaaEngB
set_option linter.unusedSimpArgs false
set_option linter.unusedVariables false
namespace Go.Eng

def deps (ops : Array Oper) (k : Nat) : List Nat := match ops[k]? with
  | some o => (o.after.toList.filter (Region.binds .any ·)).map (·.on)
  | none => []

def dsts (l : List Oper) : List Nat := l.filterMap (·.dst)

def memB (t : Nat) (l : List Nat) : Bool := l.any (Nat.beq t)
theorem memB_iff {t : Nat} {l : List Nat} : memB t l = true ↔ t ∈ l := by
  simp [memB]

/-- No two operations write one slot. -/
def distinctB : List Oper → Bool
  | [] => true
  | o :: r => (match o.dst with
    | some d => !(memB d (dsts r))
    | none => true) && distinctB r
theorem mem_dsts {l : List Oper} {j : Nat} {o : Oper} {d : Nat} (h : l[j]? = some o) (hd : o.dst = some d) : d ∈ dsts l := by
  unfold dsts
  rw [List.mem_filterMap]
  exact ⟨o, List.mem_of_getElem? h, hd⟩
theorem distinct_spec : ∀ {l : List Oper}, distinctB l = true → ∀ {i j : Nat} {o p : Oper} {d : Nat}, l[i]? = some o → l[j]? = some p → o.dst = some d → p.dst = some d → i = j
  | [], _, i, _, o, _, _, hi, _, _, _ => by simp at hi
  | x :: r, h, i, j, o, p, d, hi, hj, ho, hp => by
    simp only [distinctB, Bool.and_eq_true] at h
    obtain ⟨h1, h2⟩ := h
    cases i with
    | zero =>
      simp at hi; subst hi
      cases j with
      | zero => rfl
      | succ j =>
        simp at hj
        rw [ho] at h1
        simp only [Bool.not_eq_true'] at h1
        have := memB_iff.2 (mem_dsts hj hp)
        rw [h1] at this; cases this
    | succ i =>
      simp at hi
      cases j with
      | zero =>
        simp at hj; subst hj
        rw [hp] at h1
        simp only [Bool.not_eq_true'] at h1
        have := memB_iff.2 (mem_dsts hi ho)
        rw [h1] at this; cases this
      | succ j =>
        simp at hj
        exact congrArg (· + 1) (distinct_spec h2 hi hj ho hp)

/-- The edges go back, and the slots are slots of the frame. -/
def regB (n : Nat) (l : List Oper) : Bool :=
  distinctB l && (dsts l).all (fun d => Nat.blt d n) && (List.range l.length).all fun k => (deps l.toArray k).all fun j => Nat.blt j k

theorem lk_drp {ts : List Nat} {t : Nat} (h : t ∈ ts) : ∀ e : Env, lk (drp ts e) t = none
  | [] => rfl
  | (k, v) :: r => by
    simp only [drp]
    cases hk : ts.any (Nat.beq k) with
    | true => exact lk_drp h r
    | false =>
      show lk ((k, v) :: drp ts r) t = none
      rw [lk_cons]
      by_cases hkt : k = t
      · subst hkt
        simp at hk
        exact absurd rfl (hk k h)
      · rw [if_neg hkt]; exact lk_drp h r

theorem Sat.put_other {n : Nat} {e : Env} {a : Act} (h : Sat n e a) {d : Nat} (hd : lk e d = none) (v : Value) : Sat n e (a.put (some d) v) := by
  refine ⟨by simp [Act.put, h.size], by simp [Act.put, h.defers], fun t u hu => ?_⟩
  have hne : d ≠ t := fun hh => by subst hh; rw [hd] at hu; cases hu
  rw [← h.get t u hu]
  simp only [Act.put, Array.getD_eq_getD_getElem?]
  rw [Array.getElem?_setIfInBounds_ne hne]

section og
variable {P : Program} {n : Nat} {l : List Oper} {Q : Exit → Act → World → Prop} {M : Nat → Prop} {J : Gw → Prop} {T : Nat → Value → Gw → Prop} {e0 : Env} {g0 : Gw}

/-- What an operation does in a world of the statement: it keeps M and J, and its value has the fact Tk. -/
def StepOK (P : Program) (ops : Array Oper) (Q : Exit → Act → World → Prop) (M : Nat → Prop) (J : Gw → Prop) (Tk : Value → Gw → Prop) (o : Oper) (a : Act) (g : Gw) : Prop :=
  if Region.wanted o (yielded ops a.tmps) then o.wp P a g.w (fun a' w' => ∃ g' v, g'.w = w' ∧ Ev M g g' ∧ J g' ∧ a' = a.put o.dst v ∧ (o.dst ≠ none → Tk v g')) Q
  else Tk undef g

structure OgInv (n : Nat) (l : List Oper) (M : Nat → Prop) (J : Gw → Prop) (T : Nat → Value → Gw → Prop) (e0 : Env) (g0 : Gw) (L : Array Bool) (a : Act) (g : Gw) : Prop where
  ev : Ev M g0 g
  j : J g
  sat : Sat n e0 a
  size : L.size = l.length
  facts : ∀ k o d, L[k]? = some true → l[k]? = some o → o.dst = some d → T k (a.tmps.getD d undef) g

theorem wpAny_og (hreg : regB n l = true) (he : ∀ d ∈ dsts l, lk e0 d = none) (hstab : ∀ k v g g', T k v g → Ev M g g' → J g' → T k v g')
    (hstep : ∀ k o, l[k]? = some o → ∀ a g, Ev M g0 g → J g → Sat n e0 a → (∀ j ∈ deps l.toArray k, ∀ oj d, l[j]? = some oj → oj.dst = some d → T j (a.tmps.getD d undef) g) → StepOK P l.toArray Q M J (T k) o a g)
    (hfin : ∀ a g, Ev M g0 g → J g → Sat n e0 a → (∀ k o d, l[k]? = some o → o.dst = some d → T k (a.tmps.getD d undef) g) → Q .normal a g.w) :
    ∀ (fuel : Nat) (L : Array Bool) (a : Act) (g : Gw), L.toList.count false ≤ fuel → OgInv n l M J T e0 g0 L a g → wpAny P .any l.toArray Q fuel L a g.w := by
  simp only [regB, Bool.and_eq_true] at hreg
  obtain ⟨⟨hdis, hlt⟩, hedge⟩ := hreg
  -- where nothing may come up all is done
  have hdone : ∀ (L : Array Bool) (a : Act) (g : Gw), OgInv n l M J T e0 g0 L a g → Region.ready .any l.toArray L = [] → Q .normal a g.w := by
    intro L a g hI hr
    refine hfin a g hI.ev hI.j hI.sat (fun k o d hk hd => hI.facts k o d ?_ hk hd)
    have key : ∀ k, k < l.length → L[k]? = some true := by
      intro k
      induction k using Nat.strongRecOn with
      | _ k ih =>
        intro hk
        cases hL : L[k]? with
        | none => rw [Array.getElem?_eq_none_iff] at hL; rw [hI.size] at hL; omega
        | some b =>
          cases b with
          | true => rfl
          | false =>
            exfalso
            have : k ∈ Region.ready .any l.toArray L := by
              unfold Region.ready
              rw [List.mem_filter]
              refine ⟨by simp [hk], ?_⟩
              have hLD : L.getD k true = false := by simp [Array.getD_eq_getD_getElem?, hL]
              rw [hLD]
              simp only [Bool.not_false, Bool.true_and]
              have hok : l.toArray[k]? = some l[k] := by simp [hk]
              rw [hok]
              simp only [Option.map_some, Option.getD_some]
              rw [Array.all_eq_true_iff_forall_mem]
              intro x hx
              cases hb : Region.binds .any x with
              | false => simp
              | true =>
                have hd : x.on ∈ deps l.toArray k := by
                  unfold deps
                  rw [hok]
                  simp only [List.mem_map, List.mem_filter]
                  exact ⟨x, ⟨by simpa using hx, hb⟩, rfl⟩
                have hkk := (List.all_eq_true.1 hedge) k (by simp [hk])
                have hxk := (List.all_eq_true.1 hkk) _ hd
                have hxk' : x.on < k := by
                  have := Nat.le_of_ble_eq_true hxk
                  omega
                have := ih x.on hxk' (by omega)
                simp [Array.getD_eq_getD_getElem?, this]
            rw [hr] at this
            cases this
    have hkl : k < l.length := (List.getElem?_eq_some_iff.1 hk).1
    exact key k hkl
  intro fuel
  induction fuel with
  | zero =>
    intro L a g hc hI
    have hall : Region.ready .any l.toArray L = [] := by
      unfold Region.ready
      rw [List.filter_eq_nil_iff]
      intro k hk
      have hk' : k < l.length := by simpa using hk
      have hkL : k < L.size := by rw [hI.size]; exact hk'
      have : L[k] = true := by
        cases hb : L[k] with
        | true => rfl
        | false =>
          exfalso
          have : false ∈ L.toList := by rw [← hb]; simp
          have := List.count_pos_iff.2 this
          omega
      simp [Array.getD_eq_getD_getElem?, hkL, this]
    exact ⟨hall, hdone L a g hI hall⟩
  | succ fuel ih =>
    intro L a g hc hI
    refine ⟨hdone L a g hI, fun k hk => ?_⟩
    unfold Region.ready at hk
    rw [List.mem_filter] at hk
    obtain ⟨hkr, hk⟩ := hk
    have hkl : k < l.length := by simpa using hkr
    simp only [Bool.and_eq_true, Bool.not_eq_true'] at hk
    obtain ⟨hLk, haft⟩ := hk
    have hkL : k < L.size := by rw [hI.size]; exact hkl
    have hLf : L[k]? = some false := by
      rw [Array.getD_eq_getD_getElem?] at hLk
      rw [Array.getElem?_eq_getElem hkL] at hLk ⊢
      simpa using hLk
    have hok : l.toArray[k]? = some l[k] := by simp [hkl]
    have hokl : l[k]? = some l[k] := by simp [hkl]
    have hdeps : ∀ j ∈ deps l.toArray k, L[j]? = some true := by
      intro j hj
      rw [hok] at haft
      simp only [Option.map_some, Option.getD_some] at haft
      rw [Array.all_eq_true_iff_forall_mem] at haft
      unfold deps at hj
      rw [hok] at hj
      simp only [List.mem_map, List.mem_filter] at hj
      obtain ⟨x, ⟨hx, hb⟩, rfl⟩ := hj
      have := haft x (by simpa using hx)
      rw [hb] at this
      simp only [Bool.not_true, Bool.false_or] at this
      rw [Array.getD_eq_getD_getElem?] at this
      cases hq : L[x.on]? with
      | none => rw [hq] at this; cases this
      | some b => rw [hq] at this; simp at this; rw [this]
    have hS := hstep k l[k] hokl a g hI.ev hI.j hI.sat (fun j hj oj d h1 h2 => hI.facts j oj d (hdeps j hj) h1 h2)
    -- the state behind the operation
    have hnext : ∀ v g', Ev M g g' → J g' → (l[k].dst ≠ none → T k v g') → wpAny P .any l.toArray Q fuel (L.setIfInBounds k true) (a.put l[k].dst v) g'.w := by
      intro v g' hev hj hT
      refine ih _ _ _ ?_ ⟨hI.ev.trans hev, hj, ?_, by simp [hI.size], ?_⟩
      · have h1 : (L.setIfInBounds k true).toList = L.toList.set k true := by simp
        rw [h1, List.count_set (by simpa using hkL)]
        have hg : L.toList[k]'(by simpa using hkL) = false := by
          rw [Array.getElem?_eq_getElem hkL] at hLf
          simpa using hLf
        rw [hg]
        have hcc : Array.count false L = L.toList.count false := by simp
        simp
        omega
      · cases hd : l[k].dst with
        | none => exact hI.sat
        | some d => exact hI.sat.put_other (he d (mem_dsts hokl hd)) v
      · intro j o d hLj hjo hdj
        by_cases hjk : k = j
        · subst hjk
          rw [hokl] at hjo
          injection hjo with hjo
          subst hjo
          rw [hdj]
          have hdn : d < n := by
            have := (List.all_eq_true.1 hlt) d (mem_dsts hokl hdj)
            have := Nat.le_of_ble_eq_true this
            omega
          have : (a.put (some d) v).tmps.getD d undef = v := by
            simp [Act.put, Array.getD, hI.sat.size, hdn]
          rw [this]
          exact hT (by rw [hdj]; simp)
        · rw [Array.getElem?_setIfInBounds_ne hjk] at hLj
          have hf := hI.facts j o d hLj hjo hdj
          have : (a.put l[k].dst v).tmps.getD d undef = a.tmps.getD d undef := by
            cases hd : l[k].dst with
            | none => rfl
            | some d' =>
              have hne : d' ≠ d := fun hh => by
                subst hh
                exact hjk (distinct_spec hdis hokl hjo hd hdj)
              simp only [Act.put, Array.getD_eq_getD_getElem?]
              rw [Array.getElem?_setIfInBounds_ne hne]
          rw [this]
          exact hstab j _ _ _ hf hev hj
    unfold wpOp
    rw [hok]
    simp only []
    unfold StepOK at hS
    split at hS
    · rename_i hw
      rw [if_pos hw]
      left
      refine Oper.wp_mono (fun a' w' h => ?_) hS
      obtain ⟨g', v, rfl, h1, h2, rfl, h3⟩ := h
      exact hnext v g' h1 h2 h3
    · rename_i hw
      rw [if_neg hw]
      exact hnext undef g (Ev.refl _ _) hI.j (fun _ => hS)

/-- A statement whose order is open: by facts on each operation's value. -/
theorem c_og {id : Nat} {e : Env} (T : Nat → Value → Gw → Prop) (M : Nat → Prop) (J : Gw → Prop) (hm : P.follows .mixedOrders = true) (hreg : regB n l = true) (hJ : J g0.draw)
    (hstab : ∀ k v g g', T k v g → Ev M g g' → J g' → T k v g')
    (hstep : ∀ k o, l[k]? = some o → ∀ a g, Ev M g0 g → J g → Sat n (drp (dsts l) e) a → (∀ j ∈ deps l.toArray k, ∀ oj d, l[j]? = some oj → oj.dst = some d → T j (a.tmps.getD d undef) g) → StepOK P l.toArray Q M J (T k) o a g)
    (hfin : ∀ a g, Ev M g0 g → J g → Sat n (drp (dsts l) e) a → (∀ k o d, l[k]? = some o → o.dst = some d → T k (a.tmps.getD d undef) g) → Q .normal a g.w) :
    wpC P n (.region id l.toArray true) Q e g0.w := by
  intro a ha
  refine wp_region_any hm ?_
  have h0 : Ev M g0 g0.draw := g0.draw_ev.of_no
  refine wpAny_og (e0 := drp (dsts l) e) (g0 := g0) hreg (fun d hd => lk_drp hd e) hstab hstep hfin _ _ a g0.draw (by simp) ⟨h0, hJ, Sub.drp.sat ha, by simp, ?_⟩
  intro k o d hk
  simp [Array.getElem?_replicate] at hk
end og

-- each operation's value is fixed
section quiet
def putE (dst : Option Nat) (v : Value) (e : Env) : Env := match dst with
  | some d => (d, v) :: e
  | none => e
def putsE : List Oper → List Value → Env → Env
  | o :: r, v :: s, e => putsE r s (putE o.dst v e)
  | _, _, e => e
theorem lk_putsE_not {t : Nat} : ∀ (l : List Oper) (cs : List Value) (e : Env), t ∉ dsts l → lk (putsE l cs e) t = lk e t
  | [], cs, e, _ => by cases cs <;> rfl
  | o :: r, [], e, _ => rfl
  | o :: r, v :: s, e, h => by
    show lk (putsE r s (putE o.dst v e)) t = _
    have h1 : t ∉ dsts r := fun hh => h (by
      unfold dsts at hh ⊢
      rw [List.mem_filterMap] at hh ⊢
      obtain ⟨x, hx, hd⟩ := hh
      exact ⟨x, List.mem_cons_of_mem _ hx, hd⟩)
    rw [lk_putsE_not r s _ h1]
    cases hd : o.dst with
    | none => rfl
    | some d =>
      show lk ((d, v) :: e) t = _
      rw [lk_cons, if_neg]
      intro hh
      subst hh
      exact h (mem_dsts (j := 0) rfl hd)
theorem lk_putsE_at : ∀ (l : List Oper) (cs : List Value) (e : Env) (j : Nat) (o : Oper) (d : Nat) (v : Value), distinctB l = true → l[j]? = some o → cs[j]? = some v → o.dst = some d → lk (putsE l cs e) d = some v
  | [], _, _, j, _, _, _, _, h, _, _ => by simp at h
  | _ :: _, [], _, j, _, _, _, _, _, h, _ => by simp at h
  | x :: r, u :: s, e, 0, o, d, v, hdis, h, hc, hd => by
    simp at h hc; subst h; subst hc
    show lk (putsE r s (putE x.dst u e)) d = _
    simp only [distinctB, Bool.and_eq_true] at hdis
    have hn : d ∉ dsts r := by
      have := hdis.1
      rw [hd] at this
      simp only [Bool.not_eq_true'] at this
      intro hh
      rw [memB_iff.2 hh] at this; cases this
    rw [lk_putsE_not r s _ hn, hd]
    show lk ((d, u) :: e) d = _
    rw [lk_cons, if_pos rfl]
  | x :: r, u :: s, e, j + 1, o, d, v, hdis, h, hc, hd => by
    simp at h hc
    simp only [distinctB, Bool.and_eq_true] at hdis
    exact lk_putsE_at r s _ j o d v hdis.2 h hc hd

/-- In every world of the statement the operation gives v. -/
def QY (P : Program) (M : Nat → Prop) (J : Gw → Prop) (g0 : Gw) (o : Oper) (e : Env) (v : Value) : Prop :=
  ∀ g, Ev M g0 g → J g → ∀ ρ, Fits e ρ → (∃ g', (execOp ρ o).run P g.w = .ok (.value v) g'.w ∧ Ev M g g' ∧ J g') ∨
    (∃ f args, (execOp ρ o).run P g.w = .ok (.enter f args) g.w ∧ CallsV P f args g.w fun u w' => u = v ∧ ∃ g', g'.w = w' ∧ Ev M g g' ∧ J g')
def boolOf : Value → Option Bool
  | .bool c => some c
  | _ => none
def gval (ops : Array Oper) (e : Env) (j : Nat) : Option (Option Bool) := match (ops[j]?).bind (·.dst) with
  | some t => (lk e t).map boolOf
  | none => none
def QStep (P : Program) (ops : Array Oper) (M : Nat → Prop) (J : Gw → Prop) (g0 : Gw) (o : Oper) (e : Env) (v : Value) : Prop := match o.guard with
  | none => QY P M J g0 o e v
  | some (j, b) => ∃ c, gval ops e j = some c ∧ (c = some b → QY P M J g0 o e v) ∧ (c ≠ some b → v = undef)
def wpQ (P : Program) (ops : Array Oper) (M : Nat → Prop) (J : Gw → Prop) (g0 : Gw) (K : Env → Prop) : List Oper → Env → Prop
  | [], e => K e
  | o :: rest, e => ∃ v, QStep P ops M J g0 o e v ∧ wpQ P ops M J g0 K rest (putE o.dst v e)

theorem wpQ_spec {P : Program} {ops : Array Oper} {M : Nat → Prop} {J : Gw → Prop} {g0 : Gw} {K : Env → Prop} : ∀ (l : List Oper) (e : Env), wpQ P ops M J g0 K l e →
    ∃ cs : List Value, cs.length = l.length ∧ (∀ k o v, l[k]? = some o → cs[k]? = some v → QStep P ops M J g0 o (putsE (l.take k) (cs.take k) e) v) ∧ K (putsE l cs e)
  | [], e, h => ⟨[], rfl, fun k o v hk => by simp at hk, h⟩
  | o :: r, e, ⟨v, hs, hr⟩ => by
    obtain ⟨cs, hl, hq, hK⟩ := wpQ_spec r _ hr
    refine ⟨v :: cs, by simp [hl], fun k o' v' hk hv => ?_, hK⟩
    cases k with
    | zero =>
      simp at hk hv
      subst hk; subst hv
      exact hs
    | succ k =>
      simp at hk hv
      exact hq k o' v' hk hv

def tmpsOf (o : Oper) : List Nat := o.op.operands.toList.filterMap fun | .tmp t => some t | _ => none
/-- Whatever an operation reads of the statement's own slots stands before it, by an edge; likewise its guard. -/
def readB (l : List Oper) : Bool := (List.range l.length).all fun k => match l[k]? with
  | some o => (match o.op with | .select .. => false | _ => true) &&
      (tmpsOf o).all (fun t => (List.range k).all fun j => match l[j]? with
        | some p => (match p.dst with | some d => !(Nat.beq d t) || memB j (deps l.toArray k) | none => true)
        | none => true) &&
      (match o.guard with | some (j, _) => memB j (deps l.toArray k) && Nat.blt j k | none => true)
  | none => true

theorem c_quiet {P : Program} {n id : Nat} {l : List Oper} {Q : Exit → Act → World → Prop} {e : Env} {g0 : Gw} (M : Nat → Prop) (J : Gw → Prop) (hm : P.follows .mixedOrders = true) (hreg : regB n l = true) (hread : readB l = true) (hJ : J g0.draw)
    (h : wpQ P l.toArray M J g0 (fun e' => ∀ g, Ev M g0 g → J g → pE n Q .normal e' g.w) l (drp (dsts l) e)) : wpC P n (.region id l.toArray true) Q e g0.w := by
  obtain ⟨cs, hlen, hq, hK⟩ := wpQ_spec l _ h
  have hreg' := hreg
  simp only [regB, Bool.and_eq_true] at hreg'
  obtain ⟨⟨hdis, hlt⟩, hedge⟩ := hreg'
  refine c_og (T := fun k v _ => cs[k]? = some v) (M := M) (J := J) hm hreg hJ (fun _ _ _ _ h _ _ => h) ?_ ?_
  · intro k o hk a g hev hj hsat hdep
    have hkl : k < l.length := (List.getElem?_eq_some_iff.1 hk).1
    obtain ⟨v, hv⟩ : ∃ v, cs[k]? = some v := ⟨cs[k]'(by omega), List.getElem?_eq_getElem (by omega)⟩
    have hs := hq k o v hk hv
    have hrk := (List.all_eq_true.1 hread) k (by simp [hkl])
    rw [hk] at hrk
    simp only [Bool.and_eq_true] at hrk
    obtain ⟨⟨hsel, hrd⟩, hgd⟩ := hrk
    -- what the frame holds of an earlier operation's slot
    have hold : ∀ j p d u, j < k → l[j]? = some p → p.dst = some d → j ∈ deps l.toArray k → cs[j]? = some u → a.tmps.getD d undef = u := by
      intro j p d u hjk hp hd hjd hu
      have := hdep j hjd p d hp hd
      rw [hu] at this
      injection this with this
      exact this.symm
    have hlk : ∀ t u, lk (putsE (l.take k) (cs.take k) (drp (dsts l) e)) t = some u → (∃ j p, j < k ∧ l[j]? = some p ∧ p.dst = some t ∧ cs[j]? = some u) ∨ (lk (drp (dsts l) e) t = some u) := by
      intro t u hu
      by_cases ht : t ∈ dsts (l.take k)
      · left
        unfold dsts at ht
        rw [List.mem_filterMap] at ht
        obtain ⟨p, hp, hd⟩ := ht
        obtain ⟨j, hj⟩ := List.mem_iff_getElem?.1 hp
        have hjk : j < k := by
          have := (List.getElem?_eq_some_iff.1 hj).1
          simp at this; omega
        have hjl : l[j]? = some p := by rw [List.getElem?_take, if_pos hjk] at hj; exact hj
        obtain ⟨x, hx⟩ : ∃ x, cs[j]? = some x := ⟨cs[j]'(by omega), List.getElem?_eq_getElem (by omega)⟩
        have hdt : distinctB (l.take k) = true := by
          have aux : ∀ (q : List Oper) (m : Nat), distinctB q = true → distinctB (q.take m) = true := by
            intro q
            induction q with
            | nil => intro m _; simp [distinctB]
            | cons y s ih =>
              intro m hq
              cases m with
              | zero => rfl
              | succ m =>
                simp only [List.take_succ_cons, distinctB, Bool.and_eq_true] at hq ⊢
                refine ⟨?_, ih m hq.2⟩
                cases hy : y.dst with
                | none => rfl
                | some d0 =>
                  have h1 := hq.1
                  rw [hy] at h1
                  simp only [Bool.not_eq_true'] at h1 ⊢
                  cases hm' : memB d0 (dsts (s.take m)) with
                  | false => rfl
                  | true =>
                    rw [memB_iff] at hm'
                    unfold dsts at hm'
                    rw [List.mem_filterMap] at hm'
                    obtain ⟨z, hz, hzd⟩ := hm'
                    have : d0 ∈ dsts s := by
                      unfold dsts
                      rw [List.mem_filterMap]
                      exact ⟨z, List.mem_of_mem_take hz, hzd⟩
                    rw [memB_iff.2 this] at h1
                    cases h1
          exact aux l k hdis
        have hat := lk_putsE_at (l.take k) (cs.take k) (drp (dsts l) e) j p t x hdt hj (by rw [List.getElem?_take, if_pos hjk]; exact hx) hd
        rw [hat] at hu
        injection hu with hu
        subst hu
        exact ⟨j, p, hjk, hjl, hd, hx⟩
      · right
        rw [lk_putsE_not _ _ _ ht] at hu
        exact hu
    -- an evaluation that fits the list and agrees with the frame on what the operation reads
    have hfit : ∀ x ∈ o.op.operands, ∀ u, ev (putsE (l.take k) (cs.take k) (drp (dsts l) e)) x = some u → a.eval x = u := by
      intro x hx u hu
      cases x with
      | tmp t =>
        rcases hlk t u hu with ⟨j, p, hjk, hjl, hd, hc⟩ | hu'
        · have htm : t ∈ tmpsOf o := by
            unfold tmpsOf
            rw [List.mem_filterMap]
            exact ⟨.tmp t, by simpa using hx, rfl⟩
          have h1 := (List.all_eq_true.1 hrd) t htm
          have h2 := (List.all_eq_true.1 h1) j (by simp [hjk])
          rw [hjl] at h2
          simp only [hd] at h2
          simp at h2
          exact hold j p t u hjk hjl hd (memB_iff.1 h2) hc
        · exact hsat.get t u hu'
      | const c => simpa [ev, Act.eval] using hu
      | global q => simpa [ev, Act.eval] using hu
      | func f => simpa [ev, Act.eval] using hu
    have hρ : ∃ ρ, Fits (putsE (l.take k) (cs.take k) (drp (dsts l) e)) ρ ∧ execOp ρ o = execOp a.eval o := by
      classical
      refine ⟨fun x => if x ∈ o.op.operands then a.eval x else (ev (putsE (l.take k) (cs.take k) (drp (dsts l) e)) x).getD undef, fun x u hu => ?_, ?_⟩
      · by_cases hx : x ∈ o.op.operands
        · simp only [hx, if_true]; exact hfit x hx u hu
        · simp only [hx, if_false, hu, Option.getD_some]
      · refine execOp_congr o (fun cs' b hb => ?_) (fun x hx => by simp only [hx, if_true])
        rw [hb] at hsel
        cases hsel
    have hgo : QY P M J g0 o (putsE (l.take k) (cs.take k) (drp (dsts l) e)) v → o.wp P a g.w (fun a' w' => ∃ g' v, g'.w = w' ∧ Ev M g g' ∧ J g' ∧ a' = a.put o.dst v ∧ (o.dst ≠ none → cs[k]? = some v)) Q := by
      intro hy
      obtain ⟨ρ, hf, heq⟩ := hρ
      have := hy g hev hj ρ hf
      rw [heq] at this
      unfold Oper.wp
      rcases this with ⟨g', hr, h1, h2⟩ | ⟨f, args, hr, hc⟩
      · rw [hr, Oper.upon_value]
        exact ⟨g', v, rfl, h1, h2, rfl, fun _ => hv⟩
      · rw [hr, Oper.upon_enter]
        refine Calls.mono hc ?_
        rintro _ w' ⟨u, rfl, rfl, g', rfl, h1, h2⟩
        exact ⟨g', u, rfl, h1, h2, rfl, fun _ => hv⟩
    unfold StepOK
    unfold QStep at hs
    cases hg : o.guard with
    | none =>
      rw [hg] at hs
      rw [if_pos (by simp [Region.wanted, hg])]
      exact hgo hs
    | some jb =>
      obtain ⟨j, b⟩ := jb
      rw [hg] at hs hgd
      simp only [Bool.and_eq_true] at hgd
      obtain ⟨c, hc, h1, h2⟩ := hs
      have hjd := memB_iff.1 hgd.1
      have hjk : j < k := by have := Nat.le_of_ble_eq_true hgd.2; omega
      have hy : yielded l.toArray a.tmps j = c := by
        unfold gval at hc
        cases hdj : (l.toArray[j]?).bind (·.dst) with
        | none => rw [hdj] at hc; cases hc
        | some t =>
          rw [hdj] at hc
          simp only [] at hc
          cases hlt' : lk (putsE (l.take k) (cs.take k) (drp (dsts l) e)) t with
          | none => rw [hlt'] at hc; cases hc
          | some u =>
            rw [hlt'] at hc
            simp only [Option.map_some, Option.some.injEq] at hc
            subst hc
            rcases hlk t _ hlt' with ⟨j', p, hjk', hjl, hd, hcj⟩ | hu'
            · have : j' = j := by
                cases hpj : l[j]? with
                | none => simp [hpj] at hdj
                | some p' =>
                  simp [hpj] at hdj
                  exact distinct_spec hdis hjl hpj hd hdj
              subst this
              have := hold j' p t _ hjk' hjl hd hjd hcj
              unfold yielded
              rw [hdj]
              simp only [Option.bind_some]
              rw [Array.getD_eq_getD_getElem?] at this
              cases hx : a.tmps[t]? with
              | none => rw [hx] at this; simp at this; subst this; rfl
              | some z => rw [hx] at this; simp at this; subst this; cases z <;> rfl
            · have hin : t ∈ dsts l := by
                cases hpj : l[j]? with
                | none => simp [hpj] at hdj
                | some p' =>
                  simp [hpj] at hdj
                  exact mem_dsts hpj hdj
              rw [lk_drp hin] at hu'
              cases hu'
      by_cases hcb : c = some b
      · rw [if_pos (by simp [Region.wanted, hg, hy, hcb])]
        exact hgo (h1 hcb)
      · rw [if_neg (by simp [Region.wanted, hg, hy, hcb])]
        rw [← h2 hcb]
        exact hv
  · intro a g hev hj hsat hall
    refine hK g hev hj a ⟨hsat.size, hsat.defers, fun t u hu => ?_⟩
    by_cases ht : t ∈ dsts l
    · unfold dsts at ht
      rw [List.mem_filterMap] at ht
      obtain ⟨p, hp, hd⟩ := ht
      obtain ⟨j, hj'⟩ := List.mem_iff_getElem?.1 hp
      have hjl : j < l.length := (List.getElem?_eq_some_iff.1 hj').1
      obtain ⟨x, hx⟩ : ∃ x, cs[j]? = some x := ⟨cs[j]'(by omega), List.getElem?_eq_getElem (by omega)⟩
      rw [lk_putsE_at l cs _ j p t x hdis hj' hx hd] at hu
      injection hu with hu
      subst hu
      have := hall j p t hj' hd
      rw [hx] at this
      injection this with this
      exact this.symm
    · rw [lk_putsE_not _ _ _ ht] at hu
      exact hsat.get t u hu

-- the steps of such a statement
variable {P : Program} {ops : Array Oper} {M : Nat → Prop} {J : Gw → Prop} {g0 : Gw} {K : Env → Prop} {o : Oper} {rest : List Oper} {e : Env} {d : Nat} {v : Value}
theorem q_y (h : ∀ g, Ev M g0 g → J g → Yld P o e g.w v) (hg : o.guard = none) (hd : o.dst = some d) (k : wpQ P ops M J g0 K rest ((d, v) :: e)) : wpQ P ops M J g0 K (o :: rest) e := by
  refine ⟨v, ?_, by rw [hd]; exact k⟩
  unfold QStep
  rw [hg]
  exact fun g hev hj ρ hf => .inl ⟨g, h g hev hj ρ hf, Ev.refl _ _, hj⟩
theorem q_call (h : ∀ g, Ev M g0 g → J g → Ent P o e g.w fun u w' => u = v ∧ ∃ g', g'.w = w' ∧ Ev M g g' ∧ J g') (hg : o.guard = none) (hd : o.dst = some d) (k : wpQ P ops M J g0 K rest ((d, v) :: e)) : wpQ P ops M J g0 K (o :: rest) e := by
  refine ⟨v, ?_, by rw [hd]; exact k⟩
  unfold QStep
  rw [hg]
  exact fun g hev hj ρ hf => .inr (by
    obtain ⟨f, args, hr, hc⟩ := h g hev hj ρ hf
    exact ⟨f, args, hr, hc⟩)
theorem q_nil (h : K e) : wpQ P ops M J g0 K [] e := h
theorem q_skip {j t : Nat} {b c : Bool} (hg : o.guard = some (j, b)) (hj : (ops[j]?).bind (·.dst) = some t) (ht : lk e t = some (.bool c)) (hne : (c == b) = false) (hd : o.dst = some d) (k : wpQ P ops M J g0 K rest ((d, undef) :: e)) : wpQ P ops M J g0 K (o :: rest) e := by
  refine ⟨undef, ?_, by rw [hd]; exact k⟩
  unfold QStep
  rw [hg]
  refine ⟨some c, by simp [gval, hj, ht, boolOf], fun hcb => by injection hcb with hcb; subst hcb; simp at hne, fun _ => rfl⟩
/-- A guard that was itself left out. -/
theorem q_skipu {j t : Nat} {b : Bool} (hg : o.guard = some (j, b)) (hj : (ops[j]?).bind (·.dst) = some t) (ht : lk e t = some undef) (hd : o.dst = some d) (k : wpQ P ops M J g0 K rest ((d, undef) :: e)) : wpQ P ops M J g0 K (o :: rest) e := by
  refine ⟨undef, ?_, by rw [hd]; exact k⟩
  unfold QStep
  rw [hg]
  exact ⟨none, by simp [gval, hj, ht, boolOf, undef], (fun hcb => by cases hcb), fun _ => rfl⟩
theorem q_guard {j t : Nat} {b : Bool} (hg : o.guard = some (j, b)) (hj : (ops[j]?).bind (·.dst) = some t) (ht : lk e t = some (.bool b)) (k : wpQ P ops M J g0 K ({ o with guard := none } :: rest) e) : wpQ P ops M J g0 K (o :: rest) e := by
  obtain ⟨v, hs, hk⟩ := k
  refine ⟨v, ?_, hk⟩
  unfold QStep at hs ⊢
  rw [hg]
  refine ⟨some b, by simp [gval, hj, ht, boolOf], fun _ => hs, fun hne => absurd rfl hne⟩
theorem q_sub {l : List Oper} {t : Nat} {u u' : Value} (ht : lk e t = some u) (hu : u = u') (k : wpQ P ops M J g0 K l ((t, u') :: e)) (hK : ∀ e e', Sub e e' → K e → K e') : wpQ P ops M J g0 K l e := by
  subst hu
  have key : ∀ (l : List Oper) (e e' : Env), Sub e e' → wpQ P ops M J g0 K l e → wpQ P ops M J g0 K l e' := by
    intro l
    induction l with
    | nil => intro e e' hs h; exact hK e e' hs h
    | cons o r ih =>
      rintro e e' hs ⟨v, hq, hr⟩
      refine ⟨v, ?_, ih _ _ ?_ hr⟩
      · have hfit : ∀ ρ, Fits e' ρ → Fits e ρ := fun ρ hf x u hu => hf x u (by
          cases x with
          | tmp t => exact hs t u hu
          | const c => exact hu
          | global q => exact hu
          | func f => exact hu)
        have hQ : ∀ {v}, QY P M J g0 o e v → QY P M J g0 o e' v := fun hy g h1 h2 ρ hf => hy g h1 h2 ρ (hfit ρ hf)
        unfold QStep at hq ⊢
        cases hg : o.guard with
        | none => rw [hg] at hq; exact hQ hq
        | some jb =>
          obtain ⟨j, b⟩ := jb
          rw [hg] at hq
          obtain ⟨c, hc, h1, h2⟩ := hq
          refine ⟨c, ?_, fun h => hQ (h1 h), h2⟩
          unfold gval at hc ⊢
          cases hdj : (ops[j]?).bind (·.dst) with
          | none => rw [hdj] at hc; cases hc
          | some t =>
            rw [hdj] at hc
            simp only [] at hc ⊢
            cases hl : lk e t with
            | none => rw [hl] at hc; cases hc
            | some u => rw [hl] at hc; rw [hs t u hl]; exact hc
      · cases hd : o.dst with
        | none => exact hs
        | some d =>
          intro t u hu
          show lk ((d, v) :: e') t = some u
          have hu' : lk ((d, v) :: e) t = some u := hu
          rw [lk_cons] at hu' ⊢
          by_cases hdt : d = t
          · rw [if_pos hdt] at hu' ⊢; exact hu'
          · rw [if_neg hdt] at hu' ⊢; exact hs t u hu'
  exact key l _ _ (Sub.cons ht (Sub.refl e)) k
theorem q_split {n : Nat} {Q : Exit → Act → World → Prop} {l : List Oper} {t : Nat} {c : Bool} (ht : lk e t = some (.bool c)) (h1 : c = true → wpQ P ops M J g0 (fun e' => ∀ g, Ev M g0 g → J g → pE n Q .normal e' g.w) l ((t, .bool true) :: e))
    (h0 : c = false → wpQ P ops M J g0 (fun e' => ∀ g, Ev M g0 g → J g → pE n Q .normal e' g.w) l ((t, .bool false) :: e)) : wpQ P ops M J g0 (fun e' => ∀ g, Ev M g0 g → J g → pE n Q .normal e' g.w) l e := by
  cases c
  · exact q_sub ht rfl (h0 rfl) (fun _ _ hs h g h1 h2 => (h g h1 h2).sub hs)
  · exact q_sub ht rfl (h1 rfl) (fun _ _ hs h g h1 h2 => (h g h1 h2).sub hs)
end quiet
end Go.Eng
