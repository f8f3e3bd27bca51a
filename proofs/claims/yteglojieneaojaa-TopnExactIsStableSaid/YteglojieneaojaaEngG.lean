/- A statement whose order is open, of which some operations turn what others have made (an append in place): facts that last until then. No program is named here. -/
import Derived.Test.YteglojieneaojaaEngF
set_option linter.unusedSimpArgs false
set_option linter.unusedVariables false
namespace Go.Eng
section og
variable {P : Program} {n : Nat} {Q : Exit → Act → World → Prop} {R : Gw → Gw → Prop} {J : Gw → Prop}
/-- What an operation's fact speaks of: its slot; for a store, the slot of the address. -/
def slw (o : Oper) (a : Act) : Value := match o.dst with
  | some d => a.tmps.getD d undef
  | none => match o.op with
    | .store _ (.tmp t) _ => a.tmps.getD t undef
    | _ => undef
def viewE (o : Oper) (e : Env) : Option Value := match o.dst with
  | some d => lk e d
  | none => match o.op with
    | .store _ (.tmp t) _ => lk e t
    | _ => some undef
theorem Sat.slw {n : Nat} {e : Env} {a : Act} {o : Oper} {u : Value} (h : Sat n e a) (hu : viewE o e = some u) : Eng.slw o a = u := by
  unfold viewE at hu
  unfold Eng.slw
  cases hd : o.dst with
  | some d => rw [hd] at hu; exact h.get d u hu
  | none =>
    rw [hd] at hu
    revert hu
    generalize o.op = op
    intro hu
    cases op <;> first | (injection hu) | skip
    rename_i t x y
    cases x <;> first | (injection hu) | skip
    exact h.get _ u hu
/-- As OgDo; the fact of a store speaks of the pointer. -/
structure OgDo3 (P : Program) (R : Gw → Gw → Prop) (J : Gw → Prop) (T : Fact) (o : Oper) (e : Env) (g : Gw) : Prop where
  go : ∀ ρ, Fits e ρ →
    (∃ v g', o.dst ≠ none ∧ (execOp ρ o).run P g.w = .ok (.value v) g'.w ∧ R g g' ∧ J g' ∧ T v g') ∨ (∃ f args, o.dst ≠ none ∧ (execOp ρ o).run P g.w = .ok (.enter f args) g.w ∧ CallsV P f args g.w (fun v w' => ∃ g', g'.w = w' ∧ R g g' ∧ J g' ∧ T v g')) ∨
    (o.dst = none ∧ ∃ u g', viewE o e = some u ∧ (execOp ρ o).run P g.w = .ok .skip g'.w ∧ R g g' ∧ J g' ∧ T u g')
theorem OgDo.d3 {P : Program} {R : Gw → Gw → Prop} {J : Gw → Prop} {T : Fact} {o : Oper} {e : Env} {g : Gw} {d : Nat} (h : OgDo P R J T o e g) (hd : o.dst = some d) : OgDo3 P R J T o e g := .mk fun ρ hf => by
  have hn : o.dst ≠ none := by rw [hd]; simp
  have hv : ∀ v, dv o v = v := fun v => by unfold dv; rw [hd]
  rcases h.go ρ hf with ⟨v, g', h1, h2, h3, h4⟩ | ⟨f, args, h1, hc⟩ | ⟨h0, _⟩
  · rw [hv] at h4; exact .inl ⟨v, g', hn, h1, h2, h3, h4⟩
  · exact .inr (.inl ⟨f, args, hn, h1, hc.mono fun v w' ⟨g', k1, k2, k3, k4⟩ => ⟨g', k1, k2, k3, by rwa [hv] at k4⟩⟩)
  · exact absurd h0 hn
theorem OgDo.rel {P : Program} {R R' : Gw → Gw → Prop} {J : Gw → Prop} {T : Fact} {o : Oper} {e : Env} {g : Gw} (h : OgDo P R J T o e g) (hr : ∀ g', R g g' → R' g g') : OgDo P R' J T o e g := .mk fun ρ hf => by
  rcases h.go ρ hf with ⟨v, g', h1, h2, h3⟩ | ⟨f, args, h1, hc⟩ | ⟨h0, g', h1, h2, h3⟩
  · exact .inl ⟨v, g', h1, hr _ h2, h3⟩
  · exact .inr (.inl ⟨f, args, h1, hc.mono fun v w' ⟨g', k1, k2, k3⟩ => ⟨g', k1, hr _ k2, k3⟩⟩)
  · exact .inr (.inr ⟨h0, g', h1, hr _ h2, h3⟩)
end og
theorem OgDo.imp {P : Program} {R : Gw → Gw → Prop} {J : Gw → Prop} {T T' : Fact} {o : Oper} {e : Env} {g : Gw} (h : OgDo P R J T o e g) (ht : ∀ v g', T v g' → T' v g') : OgDo P R J T' o e g := .mk fun ρ hf => by
  rcases h.go ρ hf with ⟨v, g', h1, h2, h3, h4⟩ | ⟨f, args, h1, hc⟩ | ⟨h0, g', h1, h2, h3, h4⟩
  · exact .inl ⟨v, g', h1, h2, h3, ht _ _ h4⟩
  · exact .inr (.inl ⟨f, args, h1, hc.mono fun v w' ⟨g', k1, k2, k3, k4⟩ => ⟨g', k1, k2, k3, ht _ _ k4⟩⟩)
  · exact .inr (.inr ⟨h0, g', h1, h2, h3, ht _ _ h4⟩)
/-- A step that may write, of the blocks from B on, those of which a part is frozen (rows that grow). -/
def EvZ (B : Nat) (g g' : Gw) : Prop := Ev (fun b => B ≤ b ∧ 0 < g.F b) g g'
/-- A step that may write the variables of the type T from B on. -/
def EvV (B T : Nat) (g g' : Gw) : Prop := Ev (fun b => B ≤ b ∧ ∃ cs, Blk g b T cs) g g'
/-- What a statement whose order is open may write: blocks of M; from B on rows that grow; from B' on whatever it made. -/
def EvR (M : Nat → Prop) (B B' : Nat) (g g' : Gw) : Prop := Ev (fun b => M b ∨ (B ≤ b ∧ 0 < g.F b) ∨ B' ≤ b) g g'
theorem EvR.pre (M : Nat → Prop) (B B' : Nat) : Pre (EvR M B B') := ⟨fun g => Ev.refl _ g, fun a b c h k => ⟨k.os.trans h.os, k.tape.trans h.tape, k.output.trans h.output, Nat.le_trans h.size k.size, fun x => Nat.le_trans (h.mono x) (k.mono x),
  fun x o ho => (k.cell x o (Nat.lt_of_lt_of_le ho (h.mono x))).trans (h.cell x o ho), fun x hx hn => by
    obtain ⟨h1, h2⟩ := h.keep x hx hn
    obtain ⟨k1, k2⟩ := k.keep x (Nat.lt_of_lt_of_le hx h.size) (fun hh => hn (by rw [← h2]; exact hh))
    exact ⟨k1.trans h1, k2.trans h2⟩⟩⟩
theorem EvR.of {M : Nat → Prop} {B B' : Nat} (g g' : Gw) (h : Ev M g g') : EvR M B B' g g' := h.weaken fun _ hb => .inl (.inl hb)
theorem EvR.draw0 (M : Nat → Prop) (B B' : Nat) (g : Gw) : EvR M B B' g g.draw := g.draw_ev.of_no
theorem EvZ.toR {M : Nat → Prop} {B B' : Nat} (g g' : Gw) (h : EvZ B g g') : EvR M B B' g g' := h.weaken fun _ hb => .inl (.inr (.inl hb))
theorem EvV.toR {M : Nat → Prop} {B B' T : Nat} (g g' : Gw) (h : EvV B' T g g') : EvR M B B' g g' := h.weaken fun _ hb => .inl (.inr (.inr hb.1))
theorem EvR.hE {M : Nat → Prop} {B : Nat} {g0 g1 g' : Gw} (h : Ev M g0 g1) (hB : g0.w.heap.size ≤ B) (hr : EvR M B g1.w.heap.size g1 g') : Ev M g0 g' := h.step hr fun x hx => by
  rcases hx with hx | hx | hx
  · exact .inl hx
  · exact .inr (Nat.le_trans hB hx.1)
  · exact .inr (Nat.le_trans h.size hx)
theorem EvZ.refl {B : Nat} (g : Gw) : EvZ B g g := Ev.refl _ g
theorem Blk.nz {g : Gw} {b T B : Nat} {cs : List Value} (h : Blk g b T cs) : ¬ (B ≤ b ∧ 0 < g.F b) := fun hh => by
  have := h.2
  omega
theorem Blk.evR {M : Nat → Prop} {B : Nat} {g g' g0 : Gw} {b T : Nat} {cs : List Value} (h : Blk g b T cs) (he : EvR M B g0.w.heap.size g g') (hM : ¬ M b) (hb : b < g0.w.heap.size) : Blk g' b T cs := h.ev he (by
  rintro (hh | hh | hh)
  · exact hM hh
  · exact h.nz hh
  · omega)
theorem Own.evR {M : Nat → Prop} {g g' : Gw} {base : Nat} {a : Option Addr} {n cap sz T : Nat} (h : Own g base a n cap sz T) (he : EvR M g.w.heap.size g.w.heap.size g g') (hM : ∀ b, blkOf a b → base ≤ b → ¬ M b) : Own g' base a n cap sz T := h.ev he fun b hb hbb hh => by
  have := h.blk_lt b hb
  rcases hh with hh | hh | hh
  · exact hM b hb hbb hh
  · omega
  · omega
theorem Cods.nz {T : Nat} {g : Gw} {pc B : Nat} (h : Cods T g pc) : ¬ (B ≤ pc ∧ 0 < g.F pc) := by
  obtain ⟨la, ln, lc, bs, i, hb, _⟩ := h
  exact hb.nz
theorem Cods.evR {M : Nat → Prop} {B : Nat} {T : Nat} {g g' : Gw} {pc : Nat} (h : Cods T g pc) (he : EvR M B g.w.heap.size g g') (hM : ¬ M pc) : Cods T g' pc := h.ev he (by
  have := h.lt
  rintro (hh | hh | hh)
  · exact hM hh
  · exact h.nz hh
  · omega)
/-- A fact of an operation that runs if c holds. -/
def fIf (c : Bool) (T : Fact) : Fact := fun v g => (c = true → T v g) ∧ (c = false → v = undef)
theorem fIf.stab {c : Bool} {T : Fact} {R : Gw → Gw → Prop} {J : Gw → Prop} (h : ∀ v g g', T v g → R g g' → J g' → T v g') : ∀ v g g', fIf c T v g → R g g' → J g' → fIf c T v g' := fun v g g' ⟨h1, h2⟩ hr hj => ⟨fun hc => h v g g' (h1 hc) hr hj, h2⟩
/-- A row of the statement's own, to which may be appended. -/
def fAp {α : Type} (B n E sz : Nat) (f : α → List Value) (xs : List α) : Fact := fun v g => ∃ a c, v = .slice a n c ∧ FSf g a n c sz f xs ∧ Own g B a n c sz E ∧ (n = 0 → a = none)
/-- A row that is read. -/
def fRow {α : Type} (n sz : Nat) (f : α → List Value) (xs : List α) : Fact := fun v g => ∃ a c, v = .slice a n c ∧ FSf g a n c sz f xs
theorem fAp.stab0 {α : Type} {M : Nat → Prop} {B n E sz : Nat} {f : α → List Value} {xs : List α} {J : Gw → Prop} (hM : ∀ b, B ≤ b → ¬ M b) : ∀ v g g', fAp B n E sz f xs v g → Ev M g g' → J g' → fAp B n E sz f xs v g' := fun _ _ _ ⟨a, c, h1, h2, h3, h4⟩ he _ => ⟨a, c, h1, h2.ev he, h3.ev he (fun b _ hb => hM b hb), h4⟩
theorem fAp.stabV {α : Type} {B B' T n E sz : Nat} {f : α → List Value} {xs : List α} {J : Gw → Prop} (hsz : Nat.blt 0 sz = true) : ∀ v g g', fAp B n E sz f xs v g → EvV B' T g g' → J g' → fAp B n E sz f xs v g' := fun _ _ _ ⟨a, c, h1, h2, h3, h4⟩ he _ => ⟨a, c, h1, h2.ev he, h3.ev he (fun b hb _ ⟨_, cs, hB⟩ => by
    rcases h3 with ⟨rfl, _⟩ | ⟨b', cur, rfl, k2, k3, k4, k5, k6, k7⟩
    · simp [blkOf] at hb
    · simp [blkOf] at hb
      subst hb
      have hF := hB.2
      rw [k7] at hF
      rcases Nat.eq_zero_or_pos n with hn | hn
      · exact absurd (h4 hn) (by simp)
      · have := Nat.mul_pos hn (Nat.le_of_ble_eq_true hsz)
        omega), h4⟩
theorem fRow.stab0 {α : Type} {M : Nat → Prop} {n sz : Nat} {f : α → List Value} {xs : List α} {J : Gw → Prop} : ∀ v g g', fRow n sz f xs v g → Ev M g g' → J g' → fRow n sz f xs v g' := fun _ _ _ ⟨a, c, h1, h2⟩ he _ => ⟨a, c, h1, h2.ev he⟩
theorem fRow.stabV {α : Type} {B T n sz : Nat} {f : α → List Value} {xs : List α} {J : Gw → Prop} : ∀ v g g', fRow n sz f xs v g → EvV B T g g' → J g' → fRow n sz f xs v g' := fun _ _ _ ⟨a, c, h1, h2⟩ he _ => ⟨a, c, h1, h2.ev he⟩
theorem fSf.stabV {α : Type} {B T n sz : Nat} {f : α → List Value} {xs : List α} {J : Gw → Prop} : ∀ v g g', fSf n sz f xs v g → EvV B T g g' → J g' → fSf n sz f xs v g' := fun _ _ _ ⟨b, h1, h2⟩ he _ => ⟨b, h1, h2.ev he⟩
theorem fCell.stabV {B T : Nat} {p : Value → Prop} {J : Gw → Prop} : ∀ v g g', fCell p v g → EvV B T g g' → J g' → fCell p v g' := fun _ _ _ ⟨b, i, u, h1, h2, h3, h4⟩ he _ => ⟨b, i, u, h1, Nat.lt_of_lt_of_le h2 (he.mono b), (he.cell b i h2).trans h3, h4⟩
theorem fNew.stab0 {M : Nat → Prop} {B T : Nat} {cs : List Value} {J : Gw → Prop} (hM : ∀ b, B ≤ b → ¬ M b) : ∀ v g g', fNew B T cs v g → Ev M g g' → J g' → fNew B T cs v g' := fun _ _ _ ⟨b, h1, h2, h3⟩ he _ => ⟨b, h1, h2, h3.ev he (hM b h2)⟩
theorem fNew.stabV {B B' T T' : Nat} {cs : List Value} {J : Gw → Prop} (hne : Nat.beq T T' = false) : ∀ v g g', fNew B T cs v g → EvV B' T' g g' → J g' → fNew B T cs v g' := fun _ _ _ ⟨b, h1, h2, h3⟩ he _ => ⟨b, h1, h2, h3.ev he (fun ⟨_, cs', hB⟩ => (h3.ne_ hB hne) rfl)⟩
theorem fRow.stabZ {α : Type} {B n sz : Nat} {f : α → List Value} {xs : List α} {J : Gw → Prop} : ∀ v g g', fRow n sz f xs v g → EvZ B g g' → J g' → fRow n sz f xs v g' := fun _ _ _ ⟨a, c, h1, h2⟩ he _ => ⟨a, c, h1, h2.ev he⟩
theorem fSf.stabZ {α : Type} {B n sz : Nat} {f : α → List Value} {xs : List α} {J : Gw → Prop} : ∀ v g g', fSf n sz f xs v g → EvZ B g g' → J g' → fSf n sz f xs v g' := fun _ _ _ ⟨b, h1, h2⟩ he _ => ⟨b, h1, h2.ev he⟩
theorem fNew.stabZ {B B' T : Nat} {cs : List Value} {J : Gw → Prop} : ∀ v g g', fNew B T cs v g → EvZ B' g g' → J g' → fNew B T cs v g' := fun _ _ _ ⟨b, h1, h2, h3⟩ he _ => ⟨b, h1, h2, h3.ev he h3.nz⟩
theorem fCell.stabZ {B : Nat} {p : Value → Prop} {J : Gw → Prop} : ∀ v g g', fCell p v g → EvZ B g g' → J g' → fCell p v g' := fun _ _ _ ⟨b, i, u, h1, h2, h3, h4⟩ he _ => ⟨b, i, u, h1, Nat.lt_of_lt_of_le h2 (he.mono b), (he.cell b i h2).trans h3, h4⟩
section
variable {P : Program} {e : Env} {g : Gw} {d : Nat} {ty : TypeId} {pos : String} {af : Array Edge} {gd : Option (Nat × Bool)} {J : Gw → Prop} {α : Type}
theorem FSf.app {g' : Gw} {a : Option Addr} {n m cap sz : Nat} {f : α → List Value} {xs ys : List α} (hx : xs.length = n) (hy : ys.length = m) (hf : ∀ x, (f x).length = sz) (h : FSl g' a (n + m) cap sz (xs.flatMap f ++ ys.flatMap f)) : FSf g' a (n + m) cap sz f (xs ++ ys) :=
  FSf.of h f (xs ++ ys) hf (by rw [List.flatMap_append]) (by rw [List.length_append, hx, hy])
end
section
variable {P : Program} {R : Gw → Gw → Prop} {J : Gw → Prop} {T : Fact} {l : List Oper} {o : Oper} {e : Env} {g : Gw}
theorem OgDo3.imp {T' : Fact} (h : OgDo3 P R J T o e g) (ht : ∀ v g', T v g' → T' v g') : OgDo3 P R J T' o e g := .mk fun ρ hf => by
  rcases h.go ρ hf with ⟨v, g', h0, h1, h2, h3, h4⟩ | ⟨f, args, h0, h1, hc⟩ | ⟨h0, u, g', hu, h1, h2, h3, h4⟩
  · exact .inl ⟨v, g', h0, h1, h2, h3, ht _ _ h4⟩
  · exact .inr (.inl ⟨f, args, h0, h1, hc.mono fun v w' ⟨g', k1, k2, k3, k4⟩ => ⟨g', k1, k2, k3, ht _ _ k4⟩⟩)
  · exact .inr (.inr ⟨h0, u, g', hu, h1, h2, h3, ht _ _ h4⟩)
end
end Go.Eng
