/- Walking a function's code over a short list of slots: what each step of code and each operation of pure data does. No program is named here. -/
import Derived.WalkKit
import Derived.Orders
import Derived.Deep.LoopGhost
set_option linter.unusedSimpArgs false
set_option linter.unusedVariables false
namespace Go.Eng

abbrev Env := List (Nat × Value)

/-- What a list of slots says of one slot: the first entry counts. -/
def lk : Env → Nat → Option Value
  | [], _ => none
  | (k, v) :: r, t => match Nat.beq k t with
    | true => some v
    | false => lk r t

def ev (e : Env) : Operand → Option Value
  | .tmp t => lk e t
  | .const v => some v
  | .global g => some (.pointer (some ⟨g, 0, none⟩))
  | .func f => some (.func (.func f) #[] #[])

def evs (e : Env) : List Operand → Option (List Value)
  | [] => some []
  | x :: r => match ev e x with
    | some v => match evs e r with
      | some vs => some (v :: vs)
      | none => none
    | none => none

/-- A frame of n slots that holds what the list says. -/
structure Sat (n : Nat) (e : Env) (a : Act) : Prop where
  size : a.tmps.size = n
  defers : a.defers = []
  get : ∀ t v, lk e t = some v → a.tmps.getD t undef = v

/-- An evaluation of operands that gives what the list says. -/
def Fits (e : Env) (ρ : Operand → Value) : Prop := ∀ x v, ev e x = some v → ρ x = v

section
variable {n : Nat} {e : Env} {a : Act}
theorem Sat.fits (h : Sat n e a) : Fits e a.eval := by
  intro x v hx
  cases x with
  | tmp t => exact h.get t v hx
  | const u => simpa [ev, Act.eval] using hx
  | global g => simpa [ev, Act.eval] using hx
  | func f => simpa [ev, Act.eval] using hx

theorem lk_cons (k : Nat) (v : Value) (r : Env) (t : Nat) : lk ((k, v) :: r) t = if k = t then some v else lk r t := by
  simp only [lk]
  by_cases h : k = t
  · subst h; simp
  · have : Nat.beq k t = false := by
      cases hb : Nat.beq k t with
      | true => exact absurd (Nat.eq_of_beq_eq_true hb) h
      | false => rfl
    rw [this, if_neg h]

theorem Sat.put (h : Sat n e a) {d : Nat} (hd : d < n) (v : Value) : Sat n ((d, v) :: e) (a.put (some d) v) := by
  refine ⟨by simp [Act.put, h.size], by simp [Act.put, h.defers], fun t u hu => ?_⟩
  rw [lk_cons] at hu
  by_cases ht : d = t
  · subst ht
    rw [if_pos rfl] at hu
    injection hu with hu
    subst hu
    simp [Act.put, Array.getD, h.size, hd]
  · rw [if_neg ht] at hu
    have := h.get t u hu
    rw [← this]
    simp only [Act.put, Array.getD_eq_getD_getElem?]
    rw [Array.getElem?_setIfInBounds_ne (by omega)]

theorem Fits.evs {ρ : Operand → Value} (h : Fits e ρ) : ∀ {xs : List Operand} {vs : List Value}, Eng.evs e xs = some vs → xs.map ρ = vs
  | [], vs, hv => by
    simp [Eng.evs] at hv
    simp [hv]
  | x :: r, vs, hv => by
    simp only [Eng.evs] at hv
    split at hv
    · rename_i v hx
      split at hv
      · rename_i us hr
        injection hv with hv
        subst hv
        simp [h x v hx, h.evs hr]
      · cases hv
    · cases hv
end

/-- Of a shorter list only what the longer one says too. -/
def Sub (e' e : Env) : Prop := ∀ t v, lk e' t = some v → lk e t = some v
theorem Sub.nil {e : Env} : Sub [] e := fun _ _ h => by cases h
theorem Sub.cons {t : Nat} {v : Value} {r e : Env} (h : lk e t = some v) (hr : Sub r e) : Sub ((t, v) :: r) e := by
  intro u x hx
  rw [lk_cons] at hx
  by_cases ht : t = u
  · subst ht
    rw [if_pos rfl] at hx
    injection hx with hx
    rw [← hx]; exact h
  · rw [if_neg ht] at hx
    exact hr u x hx
theorem Sub.refl (e : Env) : Sub e e := fun _ _ h => h
theorem Sub.trans {a b c : Env} (h : Sub a b) (k : Sub b c) : Sub a c := fun t v x => k t v (h t v x)
theorem Sub.sat {n : Nat} {e e' : Env} {a : Act} (h : Sub e' e) (hs : Sat n e a) : Sat n e' a := ⟨hs.size, hs.defers, fun t v x => hs.get t v (h t v x)⟩

/-- Slots of a list that are no key of another. -/
def keys : Env → List Nat
  | [] => []
  | (k, _) :: r => k :: keys r
theorem lk_none {e : Env} {t : Nat} (h : t ∉ keys e) : lk e t = none := by
  induction e with
  | nil => rfl
  | cons x r ih =>
    obtain ⟨k, v⟩ := x
    simp [keys] at h
    rw [lk_cons, if_neg (fun hh => h.1 hh.symm)]
    exact ih h.2
theorem lk_append_none {e r : Env} {t : Nat} (h : lk e t = none) : lk (e ++ r) t = lk r t := by
  induction e with
  | nil => rfl
  | cons x q ih =>
    obtain ⟨k, v⟩ := x
    rw [List.cons_append, lk_cons]
    rw [lk_cons] at h
    by_cases hk : k = t
    · rw [if_pos hk] at h; cases h
    · rw [if_neg hk] at h
      rw [if_neg hk]; exact ih h
theorem lk_append_some {e r : Env} {t : Nat} {v : Value} (h : lk e t = some v) : lk (e ++ r) t = some v := by
  induction e with
  | nil => cases h
  | cons x q ih =>
    obtain ⟨k, u⟩ := x
    rw [List.cons_append, lk_cons]
    rw [lk_cons] at h
    by_cases hk : k = t
    · rw [if_pos hk] at h; rw [if_pos hk]; exact h
    · rw [if_neg hk] at h; rw [if_neg hk]; exact ih h
/-- The keys of p are none of b's keys, but for those of c. -/
def apartB (p : List Nat) (c b : List Nat) : Bool := p.all fun k => c.any (Nat.beq k) || !(b.any (Nat.beq k))
/-- Back at a loop's head: what the round has put before the list of the loop's entry is either told anew or no slot of that list. -/
theorem Sub.back {c p b : Env} (hc : Sub c (p ++ b)) (hk : apartB (keys p) (keys c) (keys b) = true) : Sub (c ++ b) (p ++ b) := by
  intro t v ht
  cases h : lk c t with
  | some u =>
    rw [lk_append_some h] at ht
    injection ht with ht
    subst ht
    exact hc t u h
  | none =>
    rw [lk_append_none h] at ht
    by_cases hp : t ∈ keys p
    · simp only [apartB, List.all_eq_true, Bool.or_eq_true, Bool.not_eq_true', List.any_eq_true] at hk
      rcases hk t hp with ⟨x, hx, hb⟩ | hb
      · have := Nat.eq_of_beq_eq_true hb
        subst this
        exfalso
        have : ∀ {q : Env}, t ∈ keys q → lk q t ≠ none := by
          intro q
          induction q with
          | nil => intro h; cases h
          | cons y r ih =>
            obtain ⟨k, u⟩ := y
            intro hm
            rw [lk_cons]
            by_cases hk : k = t
            · rw [if_pos hk]; simp
            · rw [if_neg hk]
              simp [keys] at hm
              rcases hm with hm | hm
              · exact absurd hm.symm hk
              · exact ih hm
        exact this hx h
      · have hn : t ∉ keys b := by
          intro hm
          simp at hb
          exact hb t hm rfl
        rw [lk_none hn] at ht
        cases ht
    · rw [lk_append_none (lk_none hp)]; exact ht
/-- Without some slots. -/
def drp (ts : List Nat) : Env → Env
  | [] => []
  | (k, v) :: r => match ts.any (Nat.beq k) with
    | true => drp ts r
    | false => (k, v) :: drp ts r
theorem Sub.drp {ts : List Nat} : ∀ {e : Env}, Sub (drp ts e) e := by
  have key : ∀ (e : Env) t v, lk (Eng.drp ts e) t = some v → ts.any (Nat.beq t) = false ∧ lk e t = some v := by
    intro e
    induction e with
    | nil => intro t v h; cases h
    | cons x r ih =>
      obtain ⟨k, u⟩ := x
      intro t v h
      simp only [Eng.drp] at h
      cases hk : ts.any (Nat.beq k) with
      | true =>
        rw [hk] at h
        obtain ⟨h1, h2⟩ := ih t v h
        refine ⟨h1, ?_⟩
        rw [lk_cons]
        by_cases hkt : k = t
        · subst hkt; rw [h1] at hk; cases hk
        · rw [if_neg hkt]; exact h2
      | false =>
        rw [hk] at h
        simp only [lk_cons] at h ⊢
        by_cases hkt : k = t
        · subst hkt
          rw [if_pos rfl] at h ⊢
          exact ⟨hk, h⟩
        · rw [if_neg hkt] at h ⊢
          exact ih t v h
  exact fun {e} t v h => (key e t v h).2

-- the goals of a walk
def wpC (P : Program) (n : Nat) (c : Code) (Q : Exit → Act → World → Prop) (e : Env) (w : World) : Prop := ∀ a, Sat n e a → c.wp P Q a w
def wpL (P : Program) (n : Nat) (ops : Array Oper) (Q : Exit → Act → World → Prop) (l : List Oper) (e : Env) (w : World) : Prop := ∀ a, Sat n e a → wpList P ops Q l a w
def pE (n : Nat) (Q : Exit → Act → World → Prop) (x : Exit) (e : Env) (w : World) : Prop := ∀ a, Sat n e a → Q x a w

/-- A call that returns a value. -/
def CallsV (P : Program) (f : FuncId) (args : Array Value) (w : World) (R : Value → World → Prop) : Prop := Calls P f args w fun e w' => ∃ v, e = .returned v ∧ R v w'
theorem CallsV.mono {P : Program} {f : FuncId} {args : Array Value} {w : World} {R R' : Value → World → Prop} (h : CallsV P f args w R) (hr : ∀ v w', R v w' → R' v w') : CallsV P f args w R' :=
  Calls.mono h fun _ _ ⟨v, hv, h⟩ => ⟨v, hv, hr _ _ h⟩

section code
variable {P : Program} {n : Nat} {Q : Exit → Act → World → Prop} {e : Env} {w : World}
theorem wpC.sub {c : Code} {e' : Env} (h : wpC P n c Q e' w) (hs : Sub e' e) : wpC P n c Q e w := fun a ha => h a (hs.sat ha)
theorem wpL.sub {ops : Array Oper} {l : List Oper} {e' : Env} (h : wpL P n ops Q l e' w) (hs : Sub e' e) : wpL P n ops Q l e w := fun a ha => h a (hs.sat ha)
theorem pE.sub {x : Exit} {e' : Env} (h : pE n Q x e' w) (hs : Sub e' e) : pE n Q x e w := fun a ha => h a (hs.sat ha)
theorem c_seq {x y : Code} (h : wpC P n x (Exit.then (y.wp P Q) Q) e w) : wpC P n (.seq x y) Q e w := fun a ha => wp_seq (h a ha)
theorem c_skip (h : pE n Q .normal e w) : wpC P n .skip Q e w := fun a ha => wp_skip (h a ha)
theorem c_ret (h : pE n Q .ret e w) : wpC P n .ret Q e w := fun a ha => wp_ret (h a ha)
theorem c_exit {i : Nat} (h : pE n Q (.exit i) e w) : wpC P n (.exit i) Q e w := fun a ha => wp_exit (h a ha)
theorem c_label {i : Nat} (h : pE n Q .normal e w) : wpC P n (.label i) Q e w := fun a ha => wp_label (h a ha)
theorem c_block {i : Nat} {c : Code} (h : wpC P n c (Exit.inBlock i Q) e w) : wpC P n (.block i c) Q e w := fun a ha => wp_block (h a ha)
theorem c_cond {c : Operand} {x y : Code} {t : Bool} (hc : ev e c = some (.bool t)) (ht : t = true → wpC P n x Q e w) (hf : t = false → wpC P n y Q e w) : wpC P n (.cond c x y) Q e w :=
  fun a ha => wp_cond_split (ha.fits c _ hc) (fun h => ht h a ha) (fun h => hf h a ha)
theorem c_cond_t {c : Operand} {x y : Code} (hc : ev e c = some (.bool true)) (ht : wpC P n x Q e w) : wpC P n (.cond c x y) Q e w := fun a ha => wp_cond_true (ha.fits c _ hc) (ht a ha)
theorem c_cond_f {c : Operand} {x y : Code} (hc : ev e c = some (.bool false)) (hf : wpC P n y Q e w) : wpC P n (.cond c x y) Q e w := fun a ha => wp_cond_false (ha.fits c _ hc) (hf a ha)
theorem c_region {id : Nat} {l : List Oper} (h : wpL P n l.toArray Q l e w) : wpC P n (.region id l.toArray false) Q e w := fun a ha => wp_region_lit (h a ha)
theorem l_nil {ops : Array Oper} (h : pE n Q .normal e w) : wpL P n ops Q [] e w := fun a ha => wpList_nil (h a ha)
/-- A loop: a state x of the proof's own at each round's head. -/
theorem c_loop {γ : Type} {c : Code} (I : γ → World → Prop) (E : γ → Env) (μ : γ → Nat) (x0 : γ) (h0 : I x0 w) (hs : Sub (E x0) e)
    (round : ∀ x w, I x w → wpC P n c (Exit.then (fun a' w' => ∃ x', I x' w' ∧ Sat n (E x') a' ∧ μ x' < μ x) Q) (E x) w) : wpC P n (.loop c) Q e w := by
  intro a ha
  refine wp_loop_ghost (fun m a w => ∃ x, μ x = m ∧ I x w ∧ Sat n (E x) a) (μ x0) ⟨x0, rfl, h0, hs.sat ha⟩ ?_
  rintro m a w ⟨x, rfl, hI, hsat⟩
  refine wp_mono (round x w hI a hsat) ?_
  intro ex a' w' hq
  cases ex with
  | normal =>
    obtain ⟨x', hI', hs', hlt⟩ := hq
    exact ⟨μ x', hlt, x', rfl, hI', hs'⟩
  | exit id => exact hq
  | goto l => exact hq
  | ret => exact hq
  | panic ch => exact hq
  | outgrown => exact hq
theorem p_back {γ : Type} {I : γ → World → Prop} {E : γ → Env} {μ : γ → Nat} {m : Nat} (x' : γ) (hI : I x' w) (hs : Sub (E x') e) (hlt : μ x' < m) :
    pE n (Exit.then (fun a' w' => ∃ x', I x' w' ∧ Sat n (E x') a' ∧ μ x' < m) Q) .normal e w := fun _ ha => ⟨x', hI, hs.sat ha, hlt⟩
theorem p_then {y : Code} (h : wpC P n y Q e w) : pE n (Exit.then (y.wp P Q) Q) .normal e w := h
theorem p_then_ret {K : Act → World → Prop} (h : pE n Q .ret e w) : pE n (Exit.then K Q) .ret e w := h
theorem p_then_exit {K : Act → World → Prop} {i : Nat} (h : pE n Q (.exit i) e w) : pE n (Exit.then K Q) (.exit i) e w := h
theorem p_blk {i : Nat} (h : pE n Q .normal e w) : pE n (Exit.inBlock i Q) .normal e w := h
theorem p_blk_ret {i : Nat} (h : pE n Q .ret e w) : pE n (Exit.inBlock i Q) .ret e w := h
theorem p_blk_exit {i : Nat} (h : pE n Q .normal e w) : pE n (Exit.inBlock i Q) (.exit i) e w := fun a ha => by
  have := h a ha
  simpa [Exit.inBlock] using this
theorem p_blk_exit_ne {i j : Nat} (hne : Nat.beq j i = false) (h : pE n Q (.exit j) e w) : pE n (Exit.inBlock i Q) (.exit j) e w := fun a ha => by
  have := h a ha
  have hn : j ≠ i := fun hh => by subst hh; simp at hne
  simpa [Exit.inBlock, hn] using this

-- a function's entry and end
def argE : Nat → List Value → Env
  | _, [] => []
  | k, v :: r => (k, v) :: argE (k + 1) r
theorem lk_argE : ∀ (l : List Value) (k t : Nat), lk (argE k l) t = if k ≤ t then l[t - k]? else none
  | [], k, t => by simp [argE, lk]
  | v :: r, k, t => by
    rw [argE, lk_cons, lk_argE r (k + 1) t]
    by_cases h : k = t
    · subst h; simp
    · rw [if_neg h]
      by_cases h1 : k + 1 ≤ t
      · rw [if_pos h1, if_pos (by omega)]
        obtain ⟨d, rfl⟩ : ∃ d, t = k + 1 + d := ⟨t - (k + 1), by omega⟩
        rw [show k + 1 + d - (k + 1) = d from by omega, show k + 1 + d - k = d + 1 from by omega]
        simp
      · rw [if_neg h1, if_neg (by omega)]
theorem enter {f : FuncId} {fn : Func} {c : Code} {args : List Value} {R : Value → World → Prop} (hf : P.funcs[f]? = some fn) (hb : fn.body = some c) (hn : fn.ntmps = n) (hle : Nat.ble args.length n = true)
    (h : wpC P n c (bodyPost P fn fun e w' => ∃ v, e = .returned v ∧ R v w') (argE 0 args) w) : CallsV P f args.toArray w R := by
  refine calls_of_wp hf hb (h _ ⟨?_, rfl, fun t v ht => ?_⟩)
  · have := Nat.le_of_ble_eq_true hle
    simp [hn]; omega
  · rw [lk_argE] at ht
    simp only [Nat.zero_le, if_true, Nat.sub_zero] at ht
    simp [Array.getD_eq_getD_getElem?, Array.getElem?_append, (List.getElem?_eq_some_iff.1 ht).1]
    exact (List.getElem?_eq_some_iff.1 ht).2
/-- What a result variable holds. -/
def RVal (P : Program) (e : Env) (w : World) (r : ResultVar) (v : Value) : Prop := match r with
  | .tmp t => lk e t = some v
  | .cell t ty => ∃ ad, lk e t = some (.pointer (some ad)) ∧ (loadVar ty ad).run P w = .ok v w
theorem rv_tmp {t : Nat} {v : Value} (h : lk e t = some v) : RVal P e w (.tmp t) v := h
theorem rv_cell {t ty : Nat} {ad : Addr} {v : Value} (h : lk e t = some (.pointer (some ad))) (hl : (loadVar ty ad).run P w = .ok v w) : RVal P e w (.cell t ty) v := ⟨ad, h, hl⟩
def rvRun (tmps : Array Value) : ResultVar → Sem Value
  | .tmp t => pure (tmps.getD t undef)
  | .cell a t => do loadVar t (← asAddr (tmps.getD a undef))
theorem rvRun_ok {a : Act} (ha : Sat n e a) {r : ResultVar} {v : Value} (h : RVal P e w r v) : (rvRun a.tmps r).run P w = .ok v w := by
  cases r with
  | tmp t =>
    have := ha.get t v h
    simp [rvRun, this]
  | cell t ty =>
    obtain ⟨ad, h1, h2⟩ := h
    have := ha.get t _ h1
    simp [rvRun, this, asAddr, h2]
theorem results_eq (fn : Func) (tmps : Array Value) : results fn tmps = (do let vs ← fn.results.mapM (rvRun tmps); pure (if h : vs.size = 1 then vs[0] else .tuple vs)) := by
  unfold results
  congr 1
theorem run_results1 {fn : Func} {a : Act} (ha : Sat n e a) {r : ResultVar} {v : Value} (hr : fn.results = [r].toArray) (h : RVal P e w r v) : (results fn a.tmps).run P w = .ok v w := by
  rw [results_eq, hr]
  simp [rvRun_ok ha h]
theorem run_results2 {fn : Func} {a : Act} (ha : Sat n e a) {r s : ResultVar} {v u : Value} (hr : fn.results = [r, s].toArray) (h : RVal P e w r v) (k : RVal P e w s u) : (results fn a.tmps).run P w = .ok (.tuple #[v, u]) w := by
  rw [results_eq, hr]
  simp [rvRun_ok ha h, rvRun_ok ha k]
theorem run_results3 {fn : Func} {a : Act} (ha : Sat n e a) {r s q : ResultVar} {v u x : Value} (hr : fn.results = [r, s, q].toArray) (h : RVal P e w r v) (k : RVal P e w s u) (l : RVal P e w q x) : (results fn a.tmps).run P w = .ok (.tuple #[v, u, x]) w := by
  rw [results_eq, hr]
  simp [rvRun_ok ha h, rvRun_ok ha k, rvRun_ok ha l]
theorem run_results0 {fn : Func} {a : Act} (hr : fn.results = #[]) : (results fn a.tmps).run P w = .ok (.tuple #[]) w := by
  rw [results_eq, hr]
  simp
theorem run_results5 {fn : Func} {a : Act} (ha : Sat n e a) {r s q p o : ResultVar} {v u x y z : Value} (hr : fn.results = [r, s, q, p, o].toArray) (h : RVal P e w r v) (k : RVal P e w s u) (l : RVal P e w q x) (m : RVal P e w p y) (j : RVal P e w o z) :
    (results fn a.tmps).run P w = .ok (.tuple #[v, u, x, y, z]) w := by
  rw [results_eq, hr]
  simp [rvRun_ok ha h, rvRun_ok ha k, rvRun_ok ha l, rvRun_ok ha m, rvRun_ok ha j]
variable {fn : Func} {R : Value → World → Prop}
theorem p_ret0 (hr : fn.results = #[]) (h : R (.tuple #[]) w) : pE n (bodyPost P fn fun e w' => ∃ v, e = .returned v ∧ R v w') .ret e w :=
  fun _ ha => ⟨ha.defers, _, run_results0 hr, _, rfl, h⟩
theorem p_end0 (hr : fn.results = #[]) (h : R (.tuple #[]) w) : pE n (bodyPost P fn fun e w' => ∃ v, e = .returned v ∧ R v w') .normal e w :=
  fun _ ha => ⟨ha.defers, _, run_results0 hr, _, rfl, h⟩
theorem p_ret1 {r : ResultVar} {v : Value} (hr : fn.results = [r].toArray) (hv : RVal P e w r v) (h : R v w) : pE n (bodyPost P fn fun e w' => ∃ v, e = .returned v ∧ R v w') .ret e w :=
  fun _ ha => ⟨ha.defers, _, run_results1 ha hr hv, _, rfl, h⟩
theorem p_ret2 {r s : ResultVar} {v u : Value} (hr : fn.results = [r, s].toArray) (hv : RVal P e w r v) (hu : RVal P e w s u) (h : R (.tuple #[v, u]) w) : pE n (bodyPost P fn fun e w' => ∃ v, e = .returned v ∧ R v w') .ret e w :=
  fun _ ha => ⟨ha.defers, _, run_results2 ha hr hv hu, _, rfl, h⟩
theorem p_ret3 {r s q : ResultVar} {v u x : Value} (hr : fn.results = [r, s, q].toArray) (hv : RVal P e w r v) (hu : RVal P e w s u) (hx : RVal P e w q x) (h : R (.tuple #[v, u, x]) w) : pE n (bodyPost P fn fun e w' => ∃ v, e = .returned v ∧ R v w') .ret e w :=
  fun _ ha => ⟨ha.defers, _, run_results3 ha hr hv hu hx, _, rfl, h⟩
theorem p_ret5 {r s q p o : ResultVar} {v u x y z : Value} (hr : fn.results = [r, s, q, p, o].toArray) (hv : RVal P e w r v) (hu : RVal P e w s u) (hx : RVal P e w q x) (hy : RVal P e w p y) (hz : RVal P e w o z) (h : R (.tuple #[v, u, x, y, z]) w) :
    pE n (bodyPost P fn fun e w' => ∃ v, e = .returned v ∧ R v w') .ret e w :=
  fun _ ha => ⟨ha.defers, _, run_results5 ha hr hv hu hx hy hz, _, rfl, h⟩
end code

-- operations
/-- The operation gives v and leaves the world alone. -/
def Yld (P : Program) (o : Oper) (e : Env) (w : World) (v : Value) : Prop := ∀ ρ, Fits e ρ → (execOp ρ o).run P w = .ok (.value v) w
/-- The operation gives a value and turns the world. -/
def Dos (P : Program) (o : Oper) (e : Env) (w : World) (R : Value → World → Prop) : Prop := ∀ ρ, Fits e ρ → ∃ v w', (execOp ρ o).run P w = .ok (.value v) w' ∧ R v w'
/-- The operation gives no value and turns the world. -/
def Dus (P : Program) (o : Oper) (e : Env) (w : World) (R : World → Prop) : Prop := ∀ ρ, Fits e ρ → ∃ w', (execOp ρ o).run P w = .ok .skip w' ∧ R w'
/-- The operation enters a function, which returns a value. -/
def Ent (P : Program) (o : Oper) (e : Env) (w : World) (R : Value → World → Prop) : Prop := ∀ ρ, Fits e ρ → ∃ f args, (execOp ρ o).run P w = .ok (.enter f args) w ∧ CallsV P f args w R

section steps
variable {P : Program} {n : Nat} {ops : Array Oper} {Q : Exit → Act → World → Prop} {rest : List Oper} {o : Oper} {e : Env} {w : World} {d : Nat} {v : Value}
theorem l_y (h : Yld P o e w v) (hg : o.guard = none) (hd : o.dst = some d) (hn : Nat.blt d n = true) (k : wpL P n ops Q rest ((d, v) :: e) w) : wpL P n ops Q (o :: rest) e w := by
  intro a ha
  refine wpList_plain hg fun K hK => ?_
  unfold Oper.wp
  rw [h a.eval ha.fits, Oper.upon_value, hd]
  exact hK _ _ (k _ (ha.put (Nat.lt_of_lt_of_le (Nat.lt_succ_self d) (Nat.le_of_ble_eq_true hn)) v))
theorem l_do {R : Value → World → Prop} (h : Dos P o e w R) (hg : o.guard = none) (hd : o.dst = some d) (hn : Nat.blt d n = true) (k : ∀ v w', R v w' → wpL P n ops Q rest ((d, v) :: e) w') : wpL P n ops Q (o :: rest) e w := by
  intro a ha
  refine wpList_plain hg fun K hK => ?_
  unfold Oper.wp
  obtain ⟨v, w', hr, hR⟩ := h a.eval ha.fits
  rw [hr, Oper.upon_value, hd]
  exact hK _ _ (k v w' hR _ (ha.put (Nat.lt_of_lt_of_le (Nat.lt_succ_self d) (Nat.le_of_ble_eq_true hn)) v))
theorem l_du {R : World → Prop} (h : Dus P o e w R) (hg : o.guard = none) (hd : o.dst = none) (k : ∀ w', R w' → wpL P n ops Q rest e w') : wpL P n ops Q (o :: rest) e w := by
  intro a ha
  refine wpList_plain hg fun K hK => ?_
  unfold Oper.wp
  obtain ⟨w', hr, hR⟩ := h a.eval ha.fits
  rw [hr, Oper.upon_skip, hd]
  exact hK _ _ (k w' hR _ ha)
theorem l_call {R : Value → World → Prop} (h : Ent P o e w R) (hg : o.guard = none) (hd : o.dst = some d) (hn : Nat.blt d n = true) (k : ∀ v w', R v w' → wpL P n ops Q rest ((d, v) :: e) w') : wpL P n ops Q (o :: rest) e w := by
  intro a ha
  refine wpList_plain hg fun K hK => ?_
  unfold Oper.wp
  obtain ⟨f, args, hr, hc⟩ := h a.eval ha.fits
  rw [hr, Oper.upon_enter]
  refine Calls.mono hc ?_
  rintro _ w' ⟨v, rfl, hR⟩
  show K (a.put o.dst v) w'
  rw [hd]
  exact hK _ _ (k v w' hR _ (ha.put (Nat.lt_of_lt_of_le (Nat.lt_succ_self d) (Nat.le_of_ble_eq_true hn)) v))
/-- An operation under a guard that is met. -/
theorem l_guard {j : Nat} {b : Bool} {t : Nat} (hg : o.guard = some (j, b)) (hj : (ops[j]?).bind (·.dst) = some t) (ht : lk e t = some (.bool b))
    (k : wpL P n ops Q ({ o with guard := none } :: rest) e w) : wpL P n ops Q (o :: rest) e w := by
  intro a ha
  have := k a ha
  have hy : yielded ops a.tmps j = some b := by
    have h1 := ha.get t _ ht
    simp only [yielded, hj, Option.bind_some]
    rw [Array.getD_eq_getD_getElem?] at h1
    cases hx : a.tmps[t]? with
    | none => rw [hx] at h1; cases h1
    | some u => rw [hx] at h1; simp at h1; subst h1; rfl
  unfold wpList at this ⊢
  have hw : Region.wanted o (yielded ops a.tmps) = true := by simp [Region.wanted, hg, hy]
  rw [if_pos hw]
  rw [if_pos (by simp [Region.wanted])] at this
  rcases this with h | h
  · left; exact h
  · right; exact h
/-- An operation under a guard that is not met. -/
theorem l_skip {j : Nat} {b c : Bool} {t : Nat} (hg : o.guard = some (j, b)) (hj : (ops[j]?).bind (·.dst) = some t) (ht : lk e t = some (.bool c)) (hne : (c == b) = false) (hd : o.dst = some d) (hn : Nat.blt d n = true)
    (k : wpL P n ops Q rest ((d, undef) :: e) w) : wpL P n ops Q (o :: rest) e w := by
  intro a ha
  have hy : yielded ops a.tmps j = some c := by
    have h1 := ha.get t _ ht
    simp only [yielded, hj, Option.bind_some]
    rw [Array.getD_eq_getD_getElem?] at h1
    cases hx : a.tmps[t]? with
    | none => rw [hx] at h1; cases h1
    | some u => rw [hx] at h1; simp at h1; subst h1; rfl
  have hw : Region.wanted o (yielded ops a.tmps) = false := by
    have : c ≠ b := fun hh => by subst hh; simp at hne
    simp [Region.wanted, hg, hy, this]
  unfold wpList
  rw [if_neg (by simp [hw]), hd]
  exact k _ (ha.put (Nat.lt_of_lt_of_le (Nat.lt_succ_self d) (Nat.le_of_ble_eq_true hn)) undef)
/-- The two ways of a truth value that a slot holds. -/
theorem l_split {l : List Oper} {t : Nat} {c : Bool} (ht : lk e t = some (.bool c)) (h1 : c = true → wpL P n ops Q l ((t, .bool true) :: e) w) (h0 : c = false → wpL P n ops Q l ((t, .bool false) :: e) w) : wpL P n ops Q l e w := by
  cases c
  · exact (h0 rfl).sub (Sub.cons ht (Sub.refl e))
  · exact (h1 rfl).sub (Sub.cons ht (Sub.refl e))
/-- A slot's value told otherwise. -/
theorem l_as {l : List Oper} {t : Nat} {u u' : Value} (ht : lk e t = some u) (hu : u = u') (k : wpL P n ops Q l ((t, u') :: e) w) : wpL P n ops Q l e w := by
  subst hu
  exact k.sub (Sub.cons ht (Sub.refl e))
theorem c_as {c : Code} {t : Nat} {u u' : Value} (ht : lk e t = some u) (hu : u = u') (k : wpC P n c Q ((t, u') :: e) w) : wpC P n c Q e w := by
  subst hu
  exact k.sub (Sub.cons ht (Sub.refl e))
end steps

section pure_ops
variable {P : Program} {e : Env} {w : World} {d : Option Tmp} {ty : TypeId} {pos : String} {af : Array Edge} {gd : Option (Nat × Bool)}
theorem y_move {x : Operand} {v : Value} (hx : ev e x = some v) : Yld P ⟨d, .move x, ty, pos, af, gd⟩ e w v := fun ρ h => by simp [execOp, h _ _ hx]
theorem y_assign {x : Operand} {v : Value} (hx : ev e x = some v) : Yld P ⟨d, .assign x, ty, pos, af, gd⟩ e w v := fun ρ h => by simp [execOp, h _ _ hx]
theorem y_pick_t {c x y : Operand} {v : Value} (hc : ev e c = some (.bool true)) (hx : ev e x = some v) : Yld P ⟨d, .pick c x y, ty, pos, af, gd⟩ e w v := fun ρ h => by simp [execOp, h _ _ hc, h _ _ hx, asBool]
theorem y_pick_f {c x y : Operand} {v : Value} (hc : ev e c = some (.bool false)) (hy : ev e y = some v) : Yld P ⟨d, .pick c x y, ty, pos, af, gd⟩ e w v := fun ρ h => by simp [execOp, h _ _ hc, h _ _ hy, asBool]
theorem y_not {t : TypeId} {x : Operand} {b : Bool} (hx : ev e x = some (.bool b)) : Yld P ⟨d, .unOp .not t x, ty, pos, af, gd⟩ e w (.bool (!b)) := fun ρ h => by simp [execOp, h _ _ hx, Op.unary]
theorem y_nilCheck {x : Operand} {ad : Addr} (hx : ev e x = some (.pointer (some ad))) : Yld P ⟨d, .nilCheck x, ty, pos, af, gd⟩ e w (.pointer (some ad)) := fun ρ h => by simp [execOp, h _ _ hx]
theorem y_makeFunc {fn : Fn} {f c : List Operand} {fs cs : List Value} (hf : evs e f = some fs) (hc : evs e c = some cs) : Yld P ⟨d, .makeFunc fn f.toArray c.toArray, ty, pos, af, gd⟩ e w (.func fn fs.toArray cs.toArray) :=
  fun ρ h => by simp [execOp, Instr.makeFunc, h.evs hf, h.evs hc]
theorem y_extract {x : Operand} {i : Nat} {vs : List Value} {v : Value} (hx : ev e x = some (.tuple vs.toArray)) (hi : vs[i]? = some v) : Yld P ⟨d, .extract x i, ty, pos, af, gd⟩ e w v := fun ρ h => by simp [execOp, Instr.extract, h _ _ hx, hi]
theorem y_len_slice {x : Operand} {t : TypeId} {E : TypeId} {a : Option Addr} {m c : Nat} (ht : P.underlying t = some (.slice E)) (hx : ev e x = some (.slice a m c)) :
    Yld P ⟨d, .call ⟨.builtin .len, [x].toArray, [t].toArray⟩, ty, pos, af, gd⟩ e w (.int .i64 (m : Int)) := fun ρ h => by
  simp [execOp, resolve, invoke, builtin, Builtin.len_, run_underlying ht, h _ _ hx, goInt]
theorem y_len_string {x : Operand} {t : TypeId} {s : ByteArray} (ht : P.underlying t = some .string) (hx : ev e x = some (.string s)) :
    Yld P ⟨d, .call ⟨.builtin .len, [x].toArray, [t].toArray⟩, ty, pos, af, gd⟩ e w (.int .i64 (s.size : Int)) := fun ρ h => by
  simp [execOp, resolve, invoke, builtin, Builtin.len_, run_underlying ht, h _ _ hx, goInt]
theorem y_cap_slice {x : Operand} {t : TypeId} {E : TypeId} {a : Option Addr} {m c : Nat} (ht : P.underlying t = some (.slice E)) (hx : ev e x = some (.slice a m c)) :
    Yld P ⟨d, .call ⟨.builtin .cap, [x].toArray, [t].toArray⟩, ty, pos, af, gd⟩ e w (.int .i64 (c : Int)) := fun ρ h => by
  simp [execOp, resolve, invoke, builtin, Builtin.cap_, run_underlying ht, h _ _ hx, goInt]
theorem y_min {x y : Operand} {ts : Array TypeId} {k : IntKind} {i j : Int} (hx : ev e x = some (.int k i)) (hy : ev e y = some (.int k j)) :
    Yld P ⟨d, .call ⟨.builtin .min, [x, y].toArray, ts⟩, ty, pos, af, gd⟩ e w (.int k (if j < i then j else i)) := fun ρ h => by
  simp [execOp, resolve, invoke, builtin, Builtin.min_, Builtin.min2, h _ _ hx, h _ _ hy]
theorem y_max {x y : Operand} {ts : Array TypeId} {k : IntKind} {i j : Int} (hx : ev e x = some (.int k i)) (hy : ev e y = some (.int k j)) :
    Yld P ⟨d, .call ⟨.builtin .max, [x, y].toArray, ts⟩, ty, pos, af, gd⟩ e w (.int k (if j > i then j else i)) := fun ρ h => by
  simp [execOp, resolve, invoke, builtin, Builtin.max_, Builtin.max2, h _ _ hx, h _ _ hy]
theorem y_conv_int {s t : TypeId} {x : Operand} {k k' : IntKind} {i : Int} {D : TypeDesc} (hs : P.underlying s = some D) (ht : P.underlying t = some (.int k)) (hx : ev e x = some (.int k' i)) :
    Yld P ⟨d, .convert s t x, ty, pos, af, gd⟩ e w (.int k (k.wrap i)) := fun ρ h => by
  simp [execOp, convert, run_underlying hs, run_underlying ht, h _ _ hx, Conv.intToInt]

section ints
variable {t t' : TypeId} {x y : Operand} {k : IntKind} {i j : Int} (hx : ev e x = some (.int k i)) (hy : ev e y = some (.int k j))
include hx hy
theorem y_add : Yld P ⟨d, .binOp .add t x y t', ty, pos, af, gd⟩ e w (.int k (k.wrap (i + j))) := fun ρ h => by simp [execOp, h _ _ hx, h _ _ hy, go_sem, Op.intArith]
theorem y_sub : Yld P ⟨d, .binOp .sub t x y t', ty, pos, af, gd⟩ e w (.int k (k.wrap (i - j))) := fun ρ h => by simp [execOp, h _ _ hx, h _ _ hy, go_sem, Op.intArith]
theorem y_mul : Yld P ⟨d, .binOp .mul t x y t', ty, pos, af, gd⟩ e w (.int k (k.wrap (i * j))) := fun ρ h => by simp [execOp, h _ _ hx, h _ _ hy, go_sem, Op.intArith]
theorem y_quo (hj : j ≠ 0) : Yld P ⟨d, .binOp .quo t x y t', ty, pos, af, gd⟩ e w (.int k (k.wrap (i.tdiv j))) := fun ρ h => by simp [execOp, h _ _ hx, h _ _ hy, go_sem, Op.intDiv, hj]
theorem y_rem (hj : j ≠ 0) : Yld P ⟨d, .binOp .rem t x y t', ty, pos, af, gd⟩ e w (.int k (i.tmod j)) := fun ρ h => by simp [execOp, h _ _ hx, h _ _ hy, go_sem, Op.intDiv, hj]
theorem y_eql : Yld P ⟨d, .binOp .eql t x y t', ty, pos, af, gd⟩ e w (.bool (i == j)) := fun ρ h => by simp [execOp, h _ _ hx, h _ _ hy, go_sem]
theorem y_neq : Yld P ⟨d, .binOp .neq t x y t', ty, pos, af, gd⟩ e w (.bool (i != j)) := fun ρ h => by simp [execOp, h _ _ hx, h _ _ hy, go_sem]
theorem y_lss : Yld P ⟨d, .binOp .lss t x y t', ty, pos, af, gd⟩ e w (.bool (decide (i < j))) := fun ρ h => by simp [execOp, h _ _ hx, h _ _ hy, go_sem]
theorem y_leq : Yld P ⟨d, .binOp .leq t x y t', ty, pos, af, gd⟩ e w (.bool (decide (i ≤ j))) := fun ρ h => by simp [execOp, h _ _ hx, h _ _ hy, go_sem]
theorem y_gtr : Yld P ⟨d, .binOp .gtr t x y t', ty, pos, af, gd⟩ e w (.bool (decide (j < i))) := fun ρ h => by simp [execOp, h _ _ hx, h _ _ hy, go_sem]
theorem y_geq : Yld P ⟨d, .binOp .geq t x y t', ty, pos, af, gd⟩ e w (.bool (decide (j ≤ i))) := fun ρ h => by simp [execOp, h _ _ hx, h _ _ hy, go_sem]
end ints
theorem wrap_in {z : Int} (h0 : -9223372036854775808 ≤ z) (h1 : z ≤ 9223372036854775807) : IntKind.i64.wrap z = z := by rw [IntKind.wrap_i64]; omega
section ints64
variable {t t' : TypeId} {x y : Operand} {i j : Int} (hx : ev e x = some (.int .i64 i)) (hy : ev e y = some (.int .i64 j))
include hx hy
theorem y_add_in (h0 : -9223372036854775808 ≤ i + j) (h1 : i + j ≤ 9223372036854775807) : Yld P ⟨d, .binOp .add t x y t', ty, pos, af, gd⟩ e w (.int .i64 (i + j)) := by
  have := y_add (P := P) (w := w) (d := d) (ty := ty) (pos := pos) (af := af) (gd := gd) (t := t) (t' := t') hx hy
  rwa [wrap_in h0 h1] at this
theorem y_sub_in (h0 : -9223372036854775808 ≤ i - j) (h1 : i - j ≤ 9223372036854775807) : Yld P ⟨d, .binOp .sub t x y t', ty, pos, af, gd⟩ e w (.int .i64 (i - j)) := by
  have := y_sub (P := P) (w := w) (d := d) (ty := ty) (pos := pos) (af := af) (gd := gd) (t := t) (t' := t') hx hy
  rwa [wrap_in h0 h1] at this
theorem y_mul_in (h0 : -9223372036854775808 ≤ i * j) (h1 : i * j ≤ 9223372036854775807) : Yld P ⟨d, .binOp .mul t x y t', ty, pos, af, gd⟩ e w (.int .i64 (i * j)) := by
  have := y_mul (P := P) (w := w) (d := d) (ty := ty) (pos := pos) (af := af) (gd := gd) (t := t) (t' := t') hx hy
  rwa [wrap_in h0 h1] at this
-- the same, the result told as one likes
theorem y_add_to (r : Int) (hr : i + j = r) (h0 : -9223372036854775808 ≤ r) (h1 : r ≤ 9223372036854775807) : Yld P ⟨d, .binOp .add t x y t', ty, pos, af, gd⟩ e w (.int .i64 r) := by
  subst hr; exact y_add_in hx hy h0 h1
theorem y_sub_to (r : Int) (hr : i - j = r) (h0 : -9223372036854775808 ≤ r) (h1 : r ≤ 9223372036854775807) : Yld P ⟨d, .binOp .sub t x y t', ty, pos, af, gd⟩ e w (.int .i64 r) := by
  subst hr; exact y_sub_in hx hy h0 h1
theorem y_mul_to (r : Int) (hr : i * j = r) (h0 : -9223372036854775808 ≤ r) (h1 : r ≤ 9223372036854775807) : Yld P ⟨d, .binOp .mul t x y t', ty, pos, af, gd⟩ e w (.int .i64 r) := by
  subst hr; exact y_mul_in hx hy h0 h1
end ints64
/-- A law, its value told otherwise. -/
theorem Yld.to {o : Oper} {v : Value} (h : Yld P o e w v) (u : Value) (hu : v = u) : Yld P o e w u := by subst hu; exact h
section strings
variable {t t' : TypeId} {x y : Operand} {a b : ByteArray} (hx : ev e x = some (.string a)) (hy : ev e y = some (.string b))
include hx hy
theorem y_seql : Yld P ⟨d, .binOp .eql t x y t', ty, pos, af, gd⟩ e w (.bool (a.toList == b.toList)) := fun ρ h => by simp [execOp, h _ _ hx, h _ _ hy, eqGuard, binOp, Op.stringOp]
theorem y_sneq : Yld P ⟨d, .binOp .neq t x y t', ty, pos, af, gd⟩ e w (.bool (!(a.toList == b.toList))) := fun ρ h => by simp [execOp, h _ _ hx, h _ _ hy, eqGuard, binOp, Op.stringOp]
theorem y_slss : Yld P ⟨d, .binOp .lss t x y t', ty, pos, af, gd⟩ e w (.bool (Op.bytesLess a.toList b.toList)) := fun ρ h => by simp [execOp, h _ _ hx, h _ _ hy, eqGuard, binOp, Op.stringOp]
theorem y_sadd (hlt : a.size + b.size ≤ 9223372036854775807) : Yld P ⟨d, .binOp .add t x y t', ty, pos, af, gd⟩ e w (.string (a ++ b)) := fun ρ h => by
  have : ¬ (9223372036854775807 : Int) < (a.size : Int) + (b.size : Int) := by omega
  simp [execOp, h _ _ hx, h _ _ hy, eqGuard, binOp, Op.stringOp, this]
end strings
theorem y_beql {t t' : TypeId} {x y : Operand} {a b : Bool} (ht : P.underlying t = some .bool) (hx : ev e x = some (.bool a)) (hy : ev e y = some (.bool b)) : Yld P ⟨d, .binOp .eql t x y t', ty, pos, af, gd⟩ e w (.bool (a == b)) := fun ρ h => by
  have := run_eql_bool (P := P) w t a b ht
  simp [execOp, h _ _ hx, h _ _ hy, go_sem, this]
theorem y_bneq {t t' : TypeId} {x y : Operand} {a b : Bool} (ht : P.underlying t = some .bool) (hx : ev e x = some (.bool a)) (hy : ev e y = some (.bool b)) : Yld P ⟨d, .binOp .neq t x y t', ty, pos, af, gd⟩ e w (.bool (!(a == b))) := fun ρ h => by
  have := run_neq_bool (P := P) w t a b ht
  simp [execOp, h _ _ hx, h _ _ hy, go_sem, this]
/-- Index of a byte of a string. -/
theorem y_index_string {t : TypeId} {x y : Operand} {k : IntKind} {s : ByteArray} {i : Nat} (ht : P.underlying t = some .string) (hx : ev e x = some (.string s)) (hy : ev e y = some (.int k (i : Int))) (hi : i < s.size) :
    Yld P ⟨d, .index t x y, ty, pos, af, gd⟩ e w (.int .u8 (s[i].toNat : Int)) := fun ρ h => by
  simp [execOp, Instr.index, asIntOf, run_underlying ht, h _ _ hx, h _ _ hy, hi]
-- calls
theorem e_call {f : FuncId} {l : List Operand} {vs : List Value} {ts : Array TypeId} {R : Value → World → Prop} (hcf : ∀ (args : Array Value) (w : World), (callFunc f args).run P w = .ok (.enter f args) w) (ha : evs e l = some vs)
    (hc : CallsV P f vs.toArray w R) : Ent P ⟨d, .call ⟨.value (.func f), l.toArray, ts⟩, ty, pos, af, gd⟩ e w R := fun ρ h =>
  ⟨f, vs.toArray, by
    have hf : ρ (.func f) = .func (.func f) #[] #[] := h _ _ rfl
    simp [execOp, resolve, invoke, hf, Deferred.ofValue, h.evs ha, hcf], hc⟩
/-- A call of a function value. -/
theorem e_callv {fo : Operand} {f : FuncId} {first capt : List Value} {l : List Operand} {vs : List Value} {ts : Array TypeId} {R : Value → World → Prop} (hfo : ev e fo = some (.func (.func f) first.toArray capt.toArray))
    (hcf : ∀ (args : Array Value) (w : World), (callFunc f args).run P w = .ok (.enter f args) w) (ha : evs e l = some vs)
    (hc : CallsV P f (first ++ vs ++ capt).toArray w R) : Ent P ⟨d, .call ⟨.value fo, l.toArray, ts⟩, ty, pos, af, gd⟩ e w R := fun ρ h =>
  ⟨f, (first ++ vs ++ capt).toArray, by
    have hf := h _ _ hfo
    simp [execOp, resolve, invoke, hf, Deferred.ofValue, h.evs ha, hcf], hc⟩
end pure_ops
end Go.Eng
