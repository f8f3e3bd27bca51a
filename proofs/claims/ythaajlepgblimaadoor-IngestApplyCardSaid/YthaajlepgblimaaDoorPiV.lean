/- Calls without a bound on their depth: what a program's functions do to data. No program is named here. -/
import Derived.Test.YthaajlepgblimaaDoorPiU
set_option linter.unusedSimpArgs false
set_option linter.unusedVariables false
set_option linter.unnecessarySimpa false
namespace Go.Pi
open Go.Eng
noncomputable def callN (X : Cx) (F : FuncId → Option FnI) : Nat → CallF
 | 0, _, _, _ => none
 | n + 1, f, args, h => match F f with
  | some fi => fnK X (callN X F n) (loopN n) fi args h
  | none => X.xt f args h
section
variable {P : Program} {X : Cx} {F : FuncId → Option FnI}
theorem loopN_ok (n : Nat) : LoopOK (loopN n) := fun _ _ _ _ h => ⟨n, h⟩
theorem callN_ok (hT : TabOK P X.T) (hm : P.follows .mixedOrders = true) (hx : CallOK P X X.xt) (hF : ∀ f fi, F f = some fi → FnOK P f fi) : ∀ n, CallOK P X (callN X F n)
 | 0 => fun f args h d h' hd => by cases hd
 | n + 1 => fun f args h d h' hd => by
  simp only [callN] at hd
  split at hd
  ·rename_i fi hfi
   exact fun g vs hi hgl hr => .inl ⟨(hF f fi hfi).enter _ _, fnK_ok hT hm (callN_ok hT hm hx hF n) (loopN_ok n) (hF f fi hfi) hd hi hgl hr⟩
  ·exact hx f args h d h' hd
-- more is known with more fuel
def Le {α : Type} (x y : Option α) : Prop := ∀ r, x = some r → y = some r
theorem Le.refl {α : Type} (x : Option α) : Le x x := fun _ h => h
theorem Le.trans {α : Type} {x y z : Option α} (h : Le x y) (k : Le y z) : Le x z := fun r hr => k r (h r hr)
theorem Le.bind {α β : Type} {x y : Option α} {f g : α → Option β} (h : Le x y) (k : ∀ a, Le (f a) (g a)) : Le (x.bind f) (y.bind g) := fun r hr => by
 obtain ⟨a, h1, h2⟩ := Option.bind_eq_some_iff.1 hr
 rw [h a h1]
 exact k a r h2
def LeC (c c' : CallF) : Prop := ∀ f args h, Le (c f args h) (c' f args h)
def LeL (l l' : LoopF) : Prop := ∀ (b b' : List D → Hp → Option Out), (∀ ds h, Le (b ds h) (b' ds h)) → ∀ ds h, Le (l b ds h) (l' b' ds h)
theorem callB_le {c c' : CallF} (hc : LeC c c') (f : FuncId) (args : List D) (h : Hp) : Le (callB c f args h) (callB c' f args h) := fun r hr => by
 unfold callB at hr ⊢
 split at hr
 ·rename_i d h2 hd
  rw [hc _ _ _ _ hd]
  exact hr
 ·cases hr
theorem calls_le {c c' : CallF} (hc : LeC c c') (md : Nat) (f : FuncId) (args : List D) (h : Hp) : Le (calls md c f args h) (calls md c' f args h) := by
 unfold calls
 split
 ·exact hc _ _ _
 ·exact callB_le hc _ _ _
 ·exact hc _ _ _
theorem callI_le {T : Tab} {c c' : CallF} (hc : LeC c c') (m : String) (ds : List D) (h : Hp) : Le (callI T c m ds h) (callI T c' m ds h) := by
 unfold callI
 split
 ·split
  ·exact hc _ _ _
  ·exact Le.refl _
 ·exact Le.refl _
theorem callOp_le {T : Tab} {c c' : CallF} (hc : LeC c c') (md : Nat) (o : Op) (ds : List D) (h : Hp) : Le (callOp T c md o ds h) (callOp T c' md o ds h) := by
 unfold callOp
 simp only [hi_eq]
 split
 ·split
  ·split
   ·exact calls_le hc _ _ _ _
   ·exact Le.refl _
  ·exact callI_le hc _ _ _
  ·exact Le.refl _
 ·exact Le.refl _
theorem gdW_le {g : D} {b : Bool} {h : Hp} {x y : Option (D × Hp)} (hx : Le x y) : Le (gdW g b h x) (gdW g b h y) := fun r hr => by
 unfold gdW at hr ⊢
 split at hr
 ·split at hr
  ·exact hx r hr
  ·exact hr
 ·exact hr
 ·cases hr
theorem opR_le {c c' : CallF} (hc : LeC c c') {fz bor : List Nat} {l : List Oper} {o : Oper} {e : DE} {h : Hp} : Le (opR X c fz bor l o e h) (opR X c' fz bor l o e h) := by
 unfold opR
 split
 ·exact Le.refl _
 ·split
  ·split
   ·exact Le.refl _
   ·exact Le.refl _
   ·exact Le.refl _
   ·exact callOp_le hc _ _ _ _
   ·exact Le.refl _
  ·split
   ·exact Le.refl _
   ·split
    ·exact Le.refl _
    ·split
     ·exact Le.refl _
     ·exact Le.refl _
     ·exact Le.refl _
     ·exact gdW_le (callOp_le hc _ _ _ _)
     ·exact Le.refl _
theorem putK_le {R : Type} {nt : Nat} {dst : Option Nat} {d : D} {e : DE} {h : Hp} {K K' : DE → Hp → Option R} (hK : ∀ e h, Le (K e h) (K' e h)) : Le (putK nt dst d e h K) (putK nt dst d e h K') := by
 unfold putK
 split
 ·exact hK _ _
 ·split
  ·exact hK _ _
  ·exact Le.refl _
theorem opK_le {R : Type} {c c' : CallF} (hc : LeC c c') {nt : Nat} {fz bor : List Nat} {l : List Oper} {o : Oper} {e : DE} {h : Hp} {K K' : DE → Hp → Option R} (hK : ∀ e h, Le (K e h) (K' e h)) : Le (opK X c nt fz bor l o e h K) (opK X c' nt fz bor l o e h K') := by
 rw [opK_eq, opK_eq]
 exact (opR_le hc).bind fun p => putK_le hK
theorem seqK_le {R : Type} {c c' : CallF} (hc : LeC c c') {nt : Nat} {fz bor : List Nat} {l : List Oper} : ∀ {ops : List Oper} {e : DE} {h : Hp} {K K' : DE → Hp → Option R}, (∀ e h, Le (K e h) (K' e h)) → Le (seqK X c nt fz bor l ops e h K) (seqK X c' nt fz bor l ops e h K')
 | [], e, h, K, K', hK => hK e h
 | [o], e, h, K, K', hK => opK_le hc hK
 | o :: p :: r, e, h, K, K', hK => by
  simp only [seqK]
  split
  ·split
   ·exact (Le.refl _).bind fun u => putK_le fun e h => seqK_le hc hK
   ·exact Le.refl _
  ·exact opK_le hc fun e h => seqK_le hc hK
theorem seqH_le {R : Type} {c c' : CallF} (hc : LeC c c') {nt : Nat} {fz bor : List Nat} {l : List Oper} : ∀ {ops : List Oper} {e : DE} {h : Hp} {hs : List Hp} {K K' : DE → Hp → List Hp → Option R}, (∀ e h hs, Le (K e h hs) (K' e h hs)) → Le (seqH X c nt fz bor l ops e h hs K) (seqH X c' nt fz bor l ops e h hs K')
 | [], e, h, hs, K, K', hK => hK e h hs
 | o :: r, e, h, hs, K, K', hK => opK_le hc fun e h => seqH_le hc hK
theorem chks_le {R : Type} {l : List Oper} {e : DE} {hs : List Hp} {x y : Option R} (h : Le x y) : ∀ {ps : List (Nat × Nat)}, Le (chks X l e hs ps x) (chks X l e hs ps y)
 | [] => h
 | (i, k) :: r => fun z hz => by
  simp only [chks] at hz ⊢
  split at hz
  ·unfold chk at hz ⊢
   split at hz
   ·rename_i hc
    rw [if_pos hc]
    exact chks_le h z hz
   ·cases hz
  ·cases hz
theorem settleK_le {R : Type} {fz : List Nat} : ∀ {ops : List Oper} {e : DE} {h : Hp} {K K' : DE → Hp → Option R}, (∀ e h, Le (K e h) (K' e h)) → Le (settleK X fz ops e h K) (settleK X fz ops e h K')
 | [], e, h, K, K', hK => hK e h
 | o :: r, e, h, K, K', hK => by
  unfold settleK
  split
  ·split
   ·exact settleK_le hK
   ·exact Le.refl _
  ·exact settleK_le hK
theorem drawK_le {R : Type} {c c' : CallF} (hc : LeC c c') {nt : Nat} {fz bor : List Nat} {m : Nat} {l : List Oper} {e : DE} {h : Hp} {K K' : DE → Hp → Option R} (hK : ∀ e h, Le (K e h) (K' e h)) : Le (drawK X c nt fz bor m l e h K) (drawK X c' nt fz bor m l e h K') := by
 unfold drawK
 split
 ·exact Le.refl _
 ·exact seqH_le hc fun e h hs => chks_le (settleK_le fun e h => seqK_le hc hK)
theorem dIf_le {R : Type} {d : D} {x x' y y' : Option R} (hx : Le x x') (hy : Le y y') : Le (dIf d x y) (dIf d x' y') := by
 unfold dIf
 split
 ·exact hx
 ·exact hy
 ·exact Le.refl _
theorem cK_le {c c' : CallF} (hc : LeC c c') {lp lp' : LoopF} (hl : LeL lp lp') {A : Ann} : ∀ (q : Code) {e : DE} {h : Hp} {R : Type} {K K' : Ex → DE → Hp → Option R}, (∀ x e h, Le (K x e h) (K' x e h)) → Le (cK X c lp A q e h R K) (cK X c' lp' A q e h R K') := by
 intro q
 induction q with
 | skip => intro e h R K K' hK; exact hK _ _ _
 | label l => intro e h R K K' hK; exact hK _ _ _
 | ret => intro e h R K K' hK; exact hK _ _ _
 | exit i => intro e h R K K' hK; exact hK _ _ _
 | goto l => intro e h R K K' hK; exact Le.refl _
 | scope b ih => intro e h R K K' hK; exact Le.refl _
 | refuse w => intro e h R K K' hK; exact Le.refl _
 | rangeFunc f ps as b ih1 ih2 => intro e h R K K' hK; exact Le.refl _
 | region id ops dr =>
  intro e h R K K' hK
  simp only [cK]
  cases dr with
  | false => exact seqK_le hc fun e h => hK _ _ _
  | true => exact drawK_le hc fun e h => hK _ _ _
 | seq a b iha ihb =>
  intro e h R K K' hK
  simp only [cK]
  refine iha fun x e h => ?_
  cases x with
  | nrm => exact ihb hK
  | ext i => exact hK _ _ _
  | ret => exact hK _ _ _
 | cond t a b iha ihb =>
  intro e h R K K' hK
  simp only [cK]
  split
  ·exact Le.refl _
  ·split
   ·exact (dIf_le (iha fun _ _ _ => Le.refl _) (ihb fun _ _ _ => Le.refl _)).bind fun r => hK _ _ _
   ·exact dIf_le (iha hK) (ihb hK)
 | block id b ih =>
  intro e h R K K' hK
  simp only [cK]
  split
  ·exact (ih fun _ _ _ => Le.refl _).bind fun r => hK _ _ _
  ·exact ih fun x e h => hK _ _ _
 | loop b ih =>
  intro e h R K K' hK
  simp only [cK]
  exact (hl _ _ (fun ds h => ih fun _ _ _ => Le.refl _) _ _).bind fun r => hK _ _ _
theorem loopN_le : ∀ {n m : Nat}, n ≤ m → LeL (loopN n) (loopN m)
 | 0, m, _ => fun b b' hb ds h r hr => by cases hr
 | n + 1, 0, h => by omega
 | n + 1, m + 1, h => fun b b' hb ds hp => by
  simp only [loopN]
  refine (hb ds hp).bind fun r => ?_
  split
  ·exact loopN_le (by omega) b b' hb _ _
  ·exact Le.refl _
theorem fnK_le {c c' : CallF} (hc : LeC c c') {lp lp' : LoopF} (hl : LeL lp lp') {fi : FnI} {args : List D} {h : Hp} : Le (fnK X c lp fi args h) (fnK X c' lp' fi args h) := by
 unfold fnK
 split
 ·exact cK_le hc hl _ fun _ _ _ => Le.refl _
 ·exact Le.refl _
theorem callN_le : ∀ {n m : Nat}, n ≤ m → LeC (callN X F n) (callN X F m)
 | 0, m, _ => fun f args h r hr => by cases hr
 | n + 1, 0, h => by omega
 | n + 1, m + 1, h => fun f args hp => by
  simp only [callN]
  split
  ·exact fnK_le (callN_le (by omega)) (loopN_le (by omega))
  ·exact Le.refl _
open Classical in
noncomputable def run (X : Cx) (F : FuncId → Option FnI) : CallF := fun f args h => if hx : ∃ n r, callN X F n f args h = some r then some (Classical.choose (Classical.choose_spec hx)) else none
open Classical in
noncomputable def loopW : LoopF := fun body ds h => if hx : ∃ n r, loopN n body ds h = some r then some (Classical.choose (Classical.choose_spec hx)) else none
theorem run_iff {f : FuncId} {args : List D} {h : Hp} {r : D × Hp} : run X F f args h = some r ↔ ∃ n, callN X F n f args h = some r := by
 unfold run
 constructor
 ·intro hr
  split at hr
  ·rename_i hx
   injection hr with hr
   exact ⟨_, by rw [Classical.choose_spec (Classical.choose_spec hx), hr]⟩
  ·cases hr
 ·rintro ⟨n, hn⟩
  have hx : ∃ n r, callN X F n f args h = some r := ⟨n, r, hn⟩
  rw [dif_pos hx]
  have h1 := Classical.choose_spec (Classical.choose_spec hx)
  have h2 := callN_le (Nat.le_max_left (Classical.choose hx) n) f args h _ h1
  have h3 := callN_le (Nat.le_max_right (Classical.choose hx) n) f args h _ hn
  rw [h2] at h3
  exact h3
theorem loopW_iff {body : List D → Hp → Option Out} {ds : List D} {h : Hp} {r : Out} : loopW body ds h = some r ↔ ∃ n, loopN n body ds h = some r := by
 unfold loopW
 constructor
 ·intro hr
  split at hr
  ·rename_i hx
   injection hr with hr
   exact ⟨_, by rw [Classical.choose_spec (Classical.choose_spec hx), hr]⟩
  ·cases hr
 ·rintro ⟨n, hn⟩
  have hx : ∃ n r, loopN n body ds h = some r := ⟨n, r, hn⟩
  rw [dif_pos hx]
  have h1 := Classical.choose_spec (Classical.choose_spec hx)
  have h2 := loopN_le (Nat.le_max_left (Classical.choose hx) n) body body (fun _ _ => Le.refl _) ds h _ h1
  have h3 := loopN_le (Nat.le_max_right (Classical.choose hx) n) body body (fun _ _ => Le.refl _) ds h _ hn
  rw [h2] at h3
  exact h3
theorem opt_ext {α : Type} {x y : Option α} (h1 : Le x y) (h2 : Le y x) : x = y := by
 cases x with
 | some r => exact (h1 r rfl).symm
 | none =>
  cases y with
  | none => rfl
  | some r => exact h2 r rfl
theorem loopW_eq (body : List D → Hp → Option Out) (ds : List D) (h : Hp) : loopW body ds h = (body ds h).bind fun r => match r.1 with
  | .nrm => loopW body r.2.1 r.2.2
  | x => some (x, r.2.1, r.2.2) := by
 refine opt_ext (fun r hr => ?_) (fun r hr => ?_)
 ·obtain ⟨n, hn⟩ := loopW_iff.1 hr
  cases n with
  | zero => cases hn
  | succ n =>
   simp only [loopN] at hn
   obtain ⟨o, h1, h2⟩ := Option.bind_eq_some_iff.1 hn
   rw [h1, Option.bind_some]
   split at h2
   ·rename_i hx
    rw [hx]
    exact loopW_iff.2 ⟨n, h2⟩
   ·rename_i hx
    cases hx' : o.1 with
    | nrm => exact absurd hx' hx
    | ext i => rw [hx'] at h2; exact h2
    | ret => rw [hx'] at h2; exact h2
 ·obtain ⟨o, h1, h2⟩ := Option.bind_eq_some_iff.1 hr
  split at h2
  ·rename_i hx
   obtain ⟨n, hn⟩ := loopW_iff.1 h2
   refine loopW_iff.2 ⟨n + 1, ?_⟩
   simp only [loopN, h1, Option.bind_some, hx]
   exact hn
  ·rename_i hx
   refine loopW_iff.2 ⟨1, ?_⟩
   simp only [loopN, h1, Option.bind_some]
   cases hx' : o.1 with
   | nrm => exact absurd hx' hx
   | ext i => rw [hx'] at h2; exact h2
   | ret => rw [hx'] at h2; exact h2
-- what comes to something comes to it with some fuel
def Sup {α : Type} (x : Option α) (xs : Nat → Option α) : Prop := ∀ r, x = some r → ∃ n, ∀ m, n ≤ m → xs m = some r
theorem Sup.const {α : Type} (x : Option α) : Sup x fun _ => x := fun r h => ⟨0, fun _ _ => h⟩
theorem Sup.bind {α β : Type} {x : Option α} {xs : Nat → Option α} {f : α → Option β} {fs : Nat → α → Option β} (h : Sup x xs) (k : ∀ a, Sup (f a) fun n => fs n a) : Sup (x.bind f) fun n => (xs n).bind (fs n) := fun r hr => by
 obtain ⟨a, h1, h2⟩ := Option.bind_eq_some_iff.1 hr
 obtain ⟨n, hn⟩ := h a h1
 obtain ⟨m, hm⟩ := k a r h2
 exact ⟨max n m, fun q hq => by
  show (xs q).bind (fs q) = _
  rw [hn q (by omega), Option.bind_some]; exact hm q (by omega)⟩
theorem run_sup (f : FuncId) (args : List D) (h : Hp) : Sup (run X F f args h) fun n => callN X F n f args h := fun r hr => by
 obtain ⟨n, hn⟩ := run_iff.1 hr
 exact ⟨n, fun m hm => callN_le hm f args h r hn⟩
theorem callB_sup (f : FuncId) (args : List D) (h : Hp) : Sup (callB (run X F) f args h) fun n => callB (callN X F n) f args h := fun r hr => by
 unfold callB at hr
 split at hr
 ·rename_i d h2 hd
  obtain ⟨n, hn⟩ := run_sup _ _ _ _ hd
  exact ⟨n, fun m hm => by show callB _ _ _ _ = _; unfold callB; have := hn m hm; simp only at this; rw [this]; exact hr⟩
 ·cases hr
theorem calls_sup (md : Nat) (f : FuncId) (args : List D) (h : Hp) : Sup (calls md (run X F) f args h) fun n => calls md (callN X F n) f args h := by
 unfold calls
 split
 ·exact run_sup _ _ _
 ·exact callB_sup _ _ _
 ·exact run_sup _ _ _
theorem callI_sup {T : Tab} (m : String) (ds : List D) (h : Hp) : Sup (callI T (run X F) m ds h) fun n => callI T (callN X F n) m ds h := by
 unfold callI
 split
 ·split
  ·exact run_sup _ _ _
  ·exact Sup.const _
 ·exact Sup.const _
theorem callOp_sup {T : Tab} (md : Nat) (o : Op) (ds : List D) (h : Hp) : Sup (callOp T (run X F) md o ds h) fun n => callOp T (callN X F n) md o ds h := by
 unfold callOp
 simp only [hi_eq]
 split
 ·split
  ·split
   ·exact calls_sup _ _ _ _
   ·exact Sup.const _
  ·exact callI_sup _ _ _
  ·exact Sup.const _
 ·exact Sup.const _
theorem gdW_sup {g : D} {b : Bool} {h : Hp} {x : Option (D × Hp)} {xs : Nat → Option (D × Hp)} (hx : Sup x xs) : Sup (gdW g b h x) fun n => gdW g b h (xs n) := by
 unfold gdW
 split
 ·split
  ·exact hx
  ·exact Sup.const _
 ·exact Sup.const _
 ·exact Sup.const _
theorem opR_sup {fz bor : List Nat} {l : List Oper} {o : Oper} {e : DE} {h : Hp} : Sup (opR X (run X F) fz bor l o e h) fun n => opR X (callN X F n) fz bor l o e h := by
 unfold opR
 split
 ·exact Sup.const _
 ·split
  ·split
   ·exact Sup.const _
   ·exact Sup.const _
   ·exact Sup.const _
   ·exact callOp_sup _ _ _ _
   ·exact Sup.const _
  ·split
   ·exact Sup.const _
   ·split
    ·exact Sup.const _
    ·split
     ·exact Sup.const _
     ·exact Sup.const _
     ·exact Sup.const _
     ·exact gdW_sup (callOp_sup _ _ _ _)
     ·exact Sup.const _
section
variable {R : Type}
theorem putK_sup {nt : Nat} {dst : Option Nat} {d : D} {e : DE} {h : Hp} {K : DE → Hp → Option R} {Ks : Nat → DE → Hp → Option R} (hK : ∀ e h, Sup (K e h) fun n => Ks n e h) : Sup (putK nt dst d e h K) fun n => putK nt dst d e h (Ks n) := by
 unfold putK
 split
 ·exact hK _ _
 ·split
  ·exact hK _ _
  ·exact Sup.const _
theorem opK_sup {nt : Nat} {fz bor : List Nat} {l : List Oper} {o : Oper} {e : DE} {h : Hp} {K : DE → Hp → Option R} {Ks : Nat → DE → Hp → Option R} (hK : ∀ e h, Sup (K e h) fun n => Ks n e h) : Sup (opK X (run X F) nt fz bor l o e h K) fun n => opK X (callN X F n) nt fz bor l o e h (Ks n) := by
 simp only [opK_eq]
 exact opR_sup.bind fun p => putK_sup hK
theorem seqK_sup {nt : Nat} {fz bor : List Nat} {l : List Oper} : ∀ {ops : List Oper} {e : DE} {h : Hp} {K : DE → Hp → Option R} {Ks : Nat → DE → Hp → Option R}, (∀ e h, Sup (K e h) fun n => Ks n e h) → Sup (seqK X (run X F) nt fz bor l ops e h K) fun n => seqK X (callN X F n) nt fz bor l ops e h (Ks n)
 | [], e, h, K, Ks, hK => hK e h
 | [o], e, h, K, Ks, hK => opK_sup hK
 | o :: p :: r, e, h, K, Ks, hK => by
  simp only [seqK]
  split
  ·split
   ·exact (Sup.const _).bind fun u => putK_sup (Ks := fun n e' h' => seqK X (callN X F n) nt fz bor l r e' h' (Ks n)) fun e h => seqK_sup hK
   ·exact Sup.const _
  ·exact opK_sup (Ks := fun n e' h' => seqK X (callN X F n) nt fz bor l (p :: r) e' h' (Ks n)) fun e h => seqK_sup hK
theorem seqH_sup {nt : Nat} {fz bor : List Nat} {l : List Oper} : ∀ {ops : List Oper} {e : DE} {h : Hp} {hs : List Hp} {K : DE → Hp → List Hp → Option R} {Ks : Nat → DE → Hp → List Hp → Option R}, (∀ e h hs, Sup (K e h hs) fun n => Ks n e h hs) → Sup (seqH X (run X F) nt fz bor l ops e h hs K) fun n => seqH X (callN X F n) nt fz bor l ops e h hs (Ks n)
 | [], e, h, hs, K, Ks, hK => hK e h hs
 | o :: r, e, h, hs, K, Ks, hK => opK_sup (Ks := fun n e' h' => seqH X (callN X F n) nt fz bor l r e' h' (match isW X.T fz o with
  | true => hs ++ [h']
  | false => hs) (Ks n)) fun e h => seqH_sup hK
theorem chks_sup {l : List Oper} {e : DE} {hs : List Hp} {x : Option R} {xs : Nat → Option R} (h : Sup x xs) : ∀ {ps : List (Nat × Nat)}, Sup (chks X l e hs ps x) fun n => chks X l e hs ps (xs n)
 | [] => h
 | (i, k) :: r => by
  simp only [chks]
  split
  ·unfold chk
   split
   ·exact chks_sup h
   ·exact Sup.const _
  ·exact Sup.const _
theorem settleK_sup {fz : List Nat} : ∀ {ops : List Oper} {e : DE} {h : Hp} {K : DE → Hp → Option R} {Ks : Nat → DE → Hp → Option R}, (∀ e h, Sup (K e h) fun n => Ks n e h) → Sup (settleK X fz ops e h K) fun n => settleK X fz ops e h (Ks n)
 | [], e, h, K, Ks, hK => hK e h
 | o :: r, e, h, K, Ks, hK => by
  unfold settleK
  split
  ·split
   ·exact settleK_sup hK
   ·exact Sup.const _
  ·exact settleK_sup hK
theorem drawK_sup {nt : Nat} {fz bor : List Nat} {m : Nat} {l : List Oper} {e : DE} {h : Hp} {K : DE → Hp → Option R} {Ks : Nat → DE → Hp → Option R} (hK : ∀ e h, Sup (K e h) fun n => Ks n e h) : Sup (drawK X (run X F) nt fz bor m l e h K) fun n => drawK X (callN X F n) nt fz bor m l e h (Ks n) := by
 unfold drawK
 split
 ·exact Sup.const _
 ·exact seqH_sup (Ks := fun n e' h' hs => chks X l e' hs (windows X.T fz m l) (settleK X fz (l.take m) e' h' fun e'' h'' => seqK X (callN X F n) nt fz bor l (l.drop m) e'' h'' (Ks n))) fun e h hs => chks_sup (settleK_sup (Ks := fun n e'' h'' => seqK X (callN X F n) nt fz bor l (l.drop m) e'' h'' (Ks n)) fun e h => seqK_sup hK)
theorem dIf_sup {d : D} {x y : Option R} {xs ys : Nat → Option R} (hx : Sup x xs) (hy : Sup y ys) : Sup (dIf d x y) fun n => dIf d (xs n) (ys n) := by
 unfold dIf
 split
 ·exact hx
 ·exact hy
 ·exact Sup.const _
end
theorem loop_sup {b : List D → Hp → Option Out} {bs : Nat → List D → Hp → Option Out} (hb : ∀ ds h, Sup (b ds h) fun n => bs n ds h) (ds : List D) (h : Hp) : Sup (loopW b ds h) fun n => loopN n (bs n) ds h := fun r hr => by
 obtain ⟨k, hk⟩ := loopW_iff.1 hr
 have key : ∀ (k : Nat) (ds : List D) (h : Hp) (r : Out), loopN k b ds h = some r → ∃ n, ∀ m q, n ≤ m → k ≤ q → loopN q (bs m) ds h = some r := by
  intro k
  induction k with
  | zero => intro ds h r hr; cases hr
  | succ k ih =>
   intro ds h r hr
   simp only [loopN] at hr
   obtain ⟨o, h1, h2⟩ := Option.bind_eq_some_iff.1 hr
   obtain ⟨n1, hn1⟩ := hb ds h o h1
   split at h2
   ·rename_i hx
    obtain ⟨n2, hn2⟩ := ih _ _ _ h2
    refine ⟨max n1 n2, fun m q hm hq => ?_⟩
    obtain ⟨q, rfl⟩ : ∃ p, q = p + 1 := ⟨q - 1, by omega⟩
    simp only [loopN]
    have e1 := hn1 m (by omega)
    simp only at e1
    rw [e1, Option.bind_some, hx]
    exact hn2 m q (by omega) (by omega)
   ·refine ⟨n1, fun m q hm hq => ?_⟩
    obtain ⟨q, rfl⟩ : ∃ p, q = p + 1 := ⟨q - 1, by omega⟩
    simp only [loopN]
    have e1 := hn1 m (by omega)
    simp only at e1
    rw [e1, Option.bind_some]
    rename_i hx
    cases hx' : o.1 with
    | nrm => exact absurd hx' hx
    | ext i => rw [hx'] at h2; exact h2
    | ret => rw [hx'] at h2; exact h2
 obtain ⟨n, hn⟩ := key k ds h r hk
 exact ⟨max n k, fun m hm => hn m m (by omega) (by omega)⟩
theorem cK_sup {A : Ann} : ∀ (q : Code) {e : DE} {h : Hp} {R : Type} {K : Ex → DE → Hp → Option R} {Ks : Nat → Ex → DE → Hp → Option R}, (∀ x e h, Sup (K x e h) fun n => Ks n x e h) → Sup (cK X (run X F) loopW A q e h R K) fun n => cK X (callN X F n) (loopN n) A q e h R (Ks n) := by
 intro q
 induction q with
 | skip => intro e h R K Ks hK; exact hK _ _ _
 | label l => intro e h R K Ks hK; exact hK _ _ _
 | ret => intro e h R K Ks hK; exact hK _ _ _
 | exit i => intro e h R K Ks hK; exact hK _ _ _
 | goto l => intro e h R K Ks hK; exact Sup.const _
 | scope b ih => intro e h R K Ks hK; exact Sup.const _
 | refuse w => intro e h R K Ks hK; exact Sup.const _
 | rangeFunc f ps as b ih1 ih2 => intro e h R K Ks hK; exact Sup.const _
 | region id ops dr =>
  intro e h R K Ks hK
  simp only [cK]
  cases dr with
  | false => exact seqK_sup fun e h => hK _ _ _
  | true => exact drawK_sup fun e h => hK _ _ _
 | seq a b iha ihb =>
  intro e h R K Ks hK
  simp only [cK]
  refine iha (Ks := fun n x e' h' => toEnd x (cK X (callN X F n) (loopN n) A b e' h' R (Ks n)) fun x => Ks n x e' h') fun x e h => ?_
  cases x with
  | nrm => exact ihb hK
  | ext i => exact hK _ _ _
  | ret => exact hK _ _ _
 | cond t a b iha ihb =>
  intro e h R K Ks hK
  simp only [cK]
  split
  ·exact Sup.const _
  ·split
   ·exact (dIf_sup (iha (Ks := fun _ x e' h' => some (x, pickE e' _, h')) fun _ _ _ => Sup.const _) (ihb (Ks := fun _ x e' h' => some (x, pickE e' _, h')) fun _ _ _ => Sup.const _)).bind fun r => hK _ _ _
   ·exact dIf_sup (iha hK) (ihb hK)
 | block id b ih =>
  intro e h R K Ks hK
  simp only [cK]
  split
  ·exact (ih (Ks := fun _ x e' h' => some (unblk id x, pickE e' _, h')) fun _ _ _ => Sup.const _).bind fun r => hK _ _ _
  ·exact ih (Ks := fun n x e' h' => Ks n (unblk id x) e' h') fun x e h => hK _ _ _
 | loop b ih =>
  intro e h R K Ks hK
  simp only [cK]
  refine (loop_sup (bs := fun n ds h' => cK X (callN X F n) (loopN n) A b _ h' Out fun x e' h'' => some (x, pickE e' _, h'')) (fun ds h => ih (Ks := fun _ x e' h'' => some (x, pickE e' _, h'')) fun _ _ _ => Sup.const _) _ _).bind fun r => hK _ _ _
theorem fnK_sup {fi : FnI} {args : List D} {h : Hp} : Sup (fnK X (run X F) loopW fi args h) fun n => fnK X (callN X F n) (loopN n) fi args h := by
 unfold fnK
 split
 ·exact cK_sup _ (Ks := fun _ x e' h' => exEnd x ((resD X h' e' fi.res).bind fun ds => match fi.sc with
      | true => scope h h' (mkRes ds)
      | false => some (mkRes ds, h'))) fun _ _ _ => Sup.const _
 ·exact Sup.const _
theorem run_le : ∀ n, LeC (callN X F n) (run X F) := fun n f args h r hr => run_iff.2 ⟨n, hr⟩
theorem loopW_le : ∀ n, LeL (loopN n) loopW := fun n b b' hb ds h r hr => loopW_iff.2 ⟨n, loopN_le (Nat.le_refl n) b b' hb ds h r hr⟩
theorem run_eq (f : FuncId) (args : List D) (h : Hp) : run X F f args h = match F f with
  | some fi => fnK X (run X F) loopW fi args h
  | none => X.xt f args h := by
 refine opt_ext (fun r hr => ?_) (fun r hr => ?_)
 ·obtain ⟨n, hn⟩ := run_iff.1 hr
  cases n with
  | zero => cases hn
  | succ n =>
   simp only [callN] at hn
   split at hn
   ·exact fnK_le (run_le n) (loopW_le n) r hn
   ·exact hn
 ·split at hr
  ·rename_i fi hfi
   obtain ⟨n, hn⟩ := fnK_sup r hr
   refine run_iff.2 ⟨n + 1, ?_⟩
   simp only [callN, hfi]
   exact hn n (Nat.le_refl n)
  ·rename_i hfi
   refine run_iff.2 ⟨1, ?_⟩
   simp only [callN, hfi]
   exact hr
theorem run_xt {f : FuncId} (hf : F f = none) (args : List D) (h : Hp) : run X F f args h = X.xt f args h := by
 rw [run_eq, hf]
theorem run_fn {f : FuncId} {fi : FnI} (hf : F f = some fi) (args : List D) (h : Hp) : run X F f args h = fnK X (run X F) loopW fi args h := by
 rw [run_eq, hf]
theorem run_ok (hT : TabOK P X.T) (hm : P.follows .mixedOrders = true) (hx : CallOK P X X.xt) (hF : ∀ f fi, F f = some fi → FnOK P f fi) : CallOK P X (run X F) := fun f args h d h' hd => by
 obtain ⟨n, hn⟩ := run_iff.1 hd
 exact callN_ok hT hm hx hF n f args h d h' hn
end
end Go.Pi
