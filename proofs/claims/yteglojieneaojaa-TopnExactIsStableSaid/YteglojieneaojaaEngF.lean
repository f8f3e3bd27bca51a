/- More laws: written-out structs and slices by their parts; the obligations of a statement whose order is open. No program is named here. -/
import Derived.Test.YteglojieneaojaaEngE
set_option linter.unusedSimpArgs false
set_option linter.unusedVariables false
namespace Go.Eng

def evp (e : Env) : List (Nat × Operand) → Option (List (Nat × Value))
  | [] => some []
  | (i, x) :: r => match ev e x with
    | some v => match evp e r with
      | some vs => some ((i, v) :: vs)
      | none => none
    | none => none
theorem Fits.evp {e : Env} {ρ : Operand → Value} (h : Fits e ρ) : ∀ {ps : List (Nat × Operand)} {vs : List (Nat × Value)}, Eng.evp e ps = some vs → ps.map (fun x => (x.1, ρ x.2)) = vs
  | [], vs, hv => by
    simp [Eng.evp] at hv
    simp [hv]
  | (i, x) :: r, vs, hv => by
    simp only [Eng.evp] at hv
    split at hv
    · rename_i v hx
      split at hv
      · rename_i us hr
        injection hv with hv
        subst hv
        simp [h x v hx, h.evp hr]
      · cases hv
    · cases hv
section
variable {P : Program} {e : Env} {g : Gw} {d : Option Tmp} {ty : TypeId} {pos : String} {af : Array Edge} {gd : Option (Nat × Bool)}
def enumV : Nat → List Value → List (Nat × Value)
  | _, [] => []
  | k, x :: r => (k, x) :: enumV (k + 1) r
theorem foldl_set (cs : List Value) : ∀ (pre suf : List Value), cs.length ≤ suf.length →
    (cs.toArray.zipIdx.foldl (fun a (c, j) => a.setIfInBounds (pre.length + j) c) (pre ++ suf).toArray) = (pre ++ cs ++ suf.drop cs.length).toArray := by
  have key : ∀ (cs : List Value) (k : Nat) (pre suf : List Value), cs.length ≤ suf.length → ∀ q, pre.length = q + k →
      ((cs.zipIdx k).foldl (fun (a : Array Value) (x : Value × Nat) => a.setIfInBounds (q + x.2) x.1) (pre ++ suf).toArray) = (pre ++ cs ++ suf.drop cs.length).toArray := by
    intro cs
    induction cs with
    | nil => intro k pre suf _ q _; simp
    | cons c r ih =>
      intro k pre suf hl q hq
      cases suf with
      | nil => simp at hl
      | cons s t =>
        simp only [List.length_cons] at hl
        have := ih (k + 1) (pre ++ [c]) t (by omega) q (by simp; omega)
        simp only [List.zipIdx_cons, List.foldl_cons]
        have h1 : (pre ++ s :: t).toArray.setIfInBounds (q + k) c = (pre ++ [c] ++ t).toArray := by
          rw [← hq]
          simp
        rw [h1, this]
        simp
  intro pre suf hl
  have := key cs 0 pre suf hl pre.length (by simp)
  rw [← this, ← Array.foldl_toList]
  simp
/-- vs laid over the head of cs. -/
def over : List Value → List Value → List Value
  | _ :: cs, v :: vs => v :: over cs vs
  | cs, _ => cs
theorem fill_seq {sz : Nat} : ∀ (vs : List Value) (pre suf : List Value) (k : Nat), pre.length = k * sz → suf.length = vs.length * sz → (∀ v ∈ vs, v.cells.size = sz) →
    Instr.fill (fun i => some (i * sz, sz)) (pre ++ suf).toArray (enumV k vs) = some (pre ++ vs.flatMap (fun v => v.cells.toList)).toArray
  | [], pre, suf, k, _, hs, _ => by
    have : suf = [] := List.eq_nil_of_length_eq_zero (by simpa using hs)
    subst this
    simp [enumV, Instr.fill]
  | v :: r, pre, suf, k, hp, hs, h => by
    have hv := h v (List.mem_cons_self ..)
    have hle : sz ≤ suf.length := by rw [hs]; simp [Nat.add_mul]
    simp only [enumV, Instr.fill]
    have h1 : ¬ (v.cells.size ≠ sz ∨ k * sz + v.cells.size > (pre ++ suf).toArray.size) := by
      simp [hv]; omega
    have h1' : (decide (v.cells.size ≠ sz) || decide (k * sz + v.cells.size > (pre ++ suf).toArray.size)) = false := by
      simp [hv]; omega
    simp only [h1', Bool.false_eq_true, if_false]
    have hf := foldl_set v.cells.toList pre suf (by simpa [hv] using hle)
    have hf' : v.cells.zipIdx.foldl (fun cs (c, j) => cs.setIfInBounds (k * sz + j) c) (pre ++ suf).toArray = (pre ++ v.cells.toList ++ suf.drop sz).toArray := by
      rw [← hp]
      simpa [hv] using hf
    rw [hf']
    have := fill_seq r (pre ++ v.cells.toList) (suf.drop sz) (k + 1) (by simp [hp, hv, Nat.add_mul]) (by simp [hs, Nat.add_mul]) (fun u hu => h u (List.mem_cons_of_mem _ hu))
    rw [this]
    simp
theorem FSf.of {α : Type} {a : Option Addr} {n cap sz : Nat} {cs : List Value} (h : FSl g a n cap sz cs) (f : α → List Value) (xs : List α) (hf : ∀ x, (f x).length = sz) (hc : xs.flatMap f = cs) (hn : xs.length = n) : FSf g a n cap sz f xs := ⟨hc ▸ h, hn, hf⟩
/-- Back at a loop's head: k entries lie before the list of the loop's entry. -/
theorem Sub.backN {c b e' : Env} (k : Nat) (hb : e'.drop k = b) (hc : Sub c e') (hk : apartB (keys (e'.take k)) (keys c) (keys b) = true) : Sub (c ++ b) e' := by
  subst hb
  have := Sub.back (c := c) (p := e'.take k) (b := e'.drop k) (by rw [List.take_append_drop]; exact hc) hk
  rwa [List.take_append_drop] at this
end

section
variable {P : Program} {M : Nat → Prop} {J : Gw → Prop} {T : Fact} {o : Oper} {e : Env} {g : Gw} {v : Value}
def fEq (u : Value) : Fact := fun v _ => v = u
def fInt (p : Int → Prop) : Fact := fun v _ => ∃ r : Int, v = .int .i64 r ∧ p r
def fStr (p : ByteArray → Prop) : Fact := fun v _ => ∃ s : ByteArray, v = .string s ∧ p s
def fSl (n sz : Nat) (cs : List Value) : Fact := fun v g => ∃ b, v = .slice (some ⟨b, 0, none⟩) n n ∧ FSl g (some ⟨b, 0, none⟩) n n sz cs
/-- A pointer to a cell that is never written again. -/
def fCell (p : Value → Prop) : Fact := fun v g => ∃ b i u, v = .pointer (some ⟨b, i, none⟩) ∧ i < g.F b ∧ g.w.cell? ⟨b, i, none⟩ = some u ∧ p u
theorem fEq.stab {R : Gw → Gw → Prop} {u : Value} : ∀ v g g', fEq u v g → R g g' → J g' → fEq u v g' := fun _ _ _ h _ _ => h
theorem fInt.stab {R : Gw → Gw → Prop} {p : Int → Prop} : ∀ v g g', fInt p v g → R g g' → J g' → fInt p v g' := fun _ _ _ h _ _ => h
theorem fStr.stab {R : Gw → Gw → Prop} {p : ByteArray → Prop} : ∀ v g g', fStr p v g → R g g' → J g' → fStr p v g' := fun _ _ _ h _ _ => h
theorem fSl.stab {n sz : Nat} {cs : List Value} : ∀ v g g', fSl n sz cs v g → Ev M g g' → J g' → fSl n sz cs v g' := fun _ _ _ ⟨b, h1, h2⟩ he _ => ⟨b, h1, h2.ev he⟩
theorem fCell.stab {p : Value → Prop} : ∀ v g g', fCell p v g → Ev M g g' → J g' → fCell p v g' := fun _ _ _ ⟨b, i, u, h1, h2, h3, h4⟩ he _ => ⟨b, i, u, h1, Nat.lt_of_lt_of_le h2 (he.mono b), (he.cell b i h2).trans h3, h4⟩
end

section
variable {g : Gw} {M : Nat → Prop} {J : Gw → Prop}
theorem FSf.fz {α : Type} {b o n cap sz : Nat} {f : α → List Value} {xs : List α} (h : FSf g (some ⟨b, o, none⟩) n cap sz f xs) {i j : Nat} (hi : i < n) (hj : j < sz) : o + i * sz + j < g.F b := by
  obtain ⟨b', o', h1, h2, _⟩ := h.sl.pos (by omega)
  injection h1 with h1
  injection h1 with h1 h3
  subst h1; subst h3
  have : (i + 1) * sz ≤ n * sz := Nat.mul_le_mul_right sz (by omega)
  rw [Nat.add_mul] at this
  omega
theorem FSf.fz0 {α : Type} {b o n cap sz : Nat} {f : α → List Value} {xs : List α} (h : FSf g (some ⟨b, o, none⟩) n cap sz f xs) {i : Nat} (hi : i < n) (hj : Nat.blt 0 sz = true) : o + i * sz < g.F b := h.fz (j := 0) hi (Nat.le_of_ble_eq_true hj)
theorem FSf.cell0 {α : Type} {b o n cap sz : Nat} {f : α → List Value} {xs : List α} (h : FSf g (some ⟨b, o, none⟩) n cap sz f xs) {i : Nat} {x : α} {v : Value} (hx : xs[i]? = some x) (hj : (f x)[0]? = some v) : g.w.cell? ⟨b, o + i * sz, none⟩ = some v := h.cell (j := 0) hx hj
def fSf {α : Type} (n sz : Nat) (f : α → List Value) (xs : List α) : Fact := fun v g => ∃ b, v = .slice (some ⟨b, 0, none⟩) n n ∧ FSf g (some ⟨b, 0, none⟩) n n sz f xs
theorem fSf.stab {α : Type} {n sz : Nat} {f : α → List Value} {xs : List α} : ∀ v g g', fSf n sz f xs v g → Ev M g g' → J g' → fSf n sz f xs v g' := fun _ _ _ ⟨b, h1, h2⟩ he _ => ⟨b, h1, h2.ev he⟩
theorem fEq.mk {u : Value} : fEq u u g := rfl
theorem fInt.mk {p : Int → Prop} {r : Int} (h : p r) : fInt p (.int .i64 r) g := ⟨r, rfl, h⟩
theorem fStr.mk {p : ByteArray → Prop} {s : ByteArray} (h : p s) : fStr p (.string s) g := ⟨s, rfl, h⟩
/-- A new variable of the statement's own: its block, and that it lies behind the worlds before. -/
def fNew (B T : Nat) (cs : List Value) : Fact := fun v g => ∃ b, v = .pointer (some ⟨b, 0, none⟩) ∧ B ≤ b ∧ Blk g b T cs
theorem fNew.stab {B T : Nat} {cs : List Value} (hM : ∀ b, B ≤ b → ¬ M b) : ∀ v g g', fNew B T cs v g → Ev M g g' → J g' → fNew B T cs v g' := fun _ _ _ ⟨b, h1, h2, h3⟩ he _ => ⟨b, h1, h2, h3.ev he (hM b h2)⟩
end

-- searching
section
variable {P : Program} {e : Env} {g : Gw} {d : Option Tmp} {ty : TypeId} {pos : String} {af : Array Edge} {gd : Option (Nat × Bool)}
end

-- a statement with one store of its own into a block that was there
/-- Only block b may have turned; and once it holds cs it holds cs. -/
def EvS (b T : Nat) (cs : List Value) : Gw → Gw → Prop := fun g g' => Ev (· = b) g g' ∧ (Blk g b T cs → Blk g' b T cs)
theorem EvS.pre (b T : Nat) (cs : List Value) : Pre (EvS b T cs) := ⟨fun g => ⟨Ev.refl _ g, fun h => h⟩, fun _ _ _ h k => ⟨h.1.trans k.1, fun x => k.2 (h.2 x)⟩⟩
theorem EvS.draw0 (b T : Nat) (cs : List Value) (g : Gw) : EvS b T cs g g.draw := ⟨g.draw_ev.of_no, fun h => h⟩
theorem Blk.draw {g : Gw} {b T : Nat} {cs : List Value} (h : Blk g b T cs) : Blk g.draw b T cs := h
def fDone (b T : Nat) (c1 : List Value) : Fact := fun _ g => Blk g b T c1
theorem fDone.stab {b T : Nat} {c1 : List Value} {J : Gw → Prop} : ∀ v g g', fDone b T c1 v g → EvS b T c1 g g' → J g' → fDone b T c1 v g' := fun _ _ _ h he _ => he.2 h
end Go.Eng
