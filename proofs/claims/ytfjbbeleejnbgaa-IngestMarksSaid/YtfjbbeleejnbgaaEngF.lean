/- More laws: written-out structs and slices by their parts; the obligations of a statement whose order is open. No program is named here. -/
import Derived.Test.YtfjbbeleejnbgaaEngE
set_option linter.unusedSimpArgs false
set_option linter.unusedVariables false
namespace Go.Eng

def evp (e : Env) : List (Nat × Operand) → Option (List (Nat × Value))
  | [] => some []
  | (i, x) :: r => match ev e x with
    | some v => match evp e r with
      | some vs => some ((i, v) :: vs)
      | none => none
    | none => none
theorem Fits.evp {e : Env} {ρ : Operand → Value} (h : Fits e ρ) : ∀ {ps : List (Nat × Operand)} {vs : List (Nat × Value)}, Eng.evp e ps = some vs → ps.map (fun x => (x.1, ρ x.2)) = vs
  | [], vs, hv => by
    simp [Eng.evp] at hv
    simp [hv]
  | (i, x) :: r, vs, hv => by
    simp only [Eng.evp] at hv
    split at hv
    · rename_i v hx
      split at hv
      · rename_i us hr
        injection hv with hv
        subst hv
        simp [h x v hx, h.evp hr]
      · cases hv
    · cases hv
section
variable {P : Program} {e : Env} {g : Gw} {d : Option Tmp} {ty : TypeId} {pos : String} {af : Array Edge} {gd : Option (Nat × Bool)}
def enumP : Nat → List Operand → List (Nat × Operand)
  | _, [] => []
  | k, x :: r => (k, x) :: enumP (k + 1) r
def enumV : Nat → List Value → List (Nat × Value)
  | _, [] => []
  | k, x :: r => (k, x) :: enumV (k + 1) r
theorem map_enumP {ρ : Operand → Value} : ∀ (xs : List Operand) (k : Nat), (enumP k xs).map (fun x => (x.1, ρ x.2)) = enumV k (xs.map ρ)
  | [], _ => rfl
  | x :: r, k => by simp [enumP, enumV, map_enumP r (k + 1)]
theorem foldl_set (cs : List Value) : ∀ (pre suf : List Value), cs.length ≤ suf.length →
    (cs.toArray.zipIdx.foldl (fun a (c, j) => a.setIfInBounds (pre.length + j) c) (pre ++ suf).toArray) = (pre ++ cs ++ suf.drop cs.length).toArray := by
  have key : ∀ (cs : List Value) (k : Nat) (pre suf : List Value), cs.length ≤ suf.length → ∀ q, pre.length = q + k →
      ((cs.zipIdx k).foldl (fun (a : Array Value) (x : Value × Nat) => a.setIfInBounds (q + x.2) x.1) (pre ++ suf).toArray) = (pre ++ cs ++ suf.drop cs.length).toArray := by
    intro cs
    induction cs with
    | nil => intro k pre suf _ q _; simp
    | cons c r ih =>
      intro k pre suf hl q hq
      cases suf with
      | nil => simp at hl
      | cons s t =>
        simp only [List.length_cons] at hl
        have := ih (k + 1) (pre ++ [c]) t (by omega) q (by simp; omega)
        simp only [List.zipIdx_cons, List.foldl_cons]
        have h1 : (pre ++ s :: t).toArray.setIfInBounds (q + k) c = (pre ++ [c] ++ t).toArray := by
          rw [← hq]
          simp
        rw [h1, this]
        simp
  intro pre suf hl
  have := key cs 0 pre suf hl pre.length (by simp)
  rw [← this, ← Array.foldl_toList]
  simp
/-- vs laid over the head of cs. -/
def over : List Value → List Value → List Value
  | _ :: cs, v :: vs => v :: over cs vs
  | cs, _ => cs
/-- vs laid over cs from a place on. -/
def overAt : Nat → List Value → List Value → List Value
  | 0, cs, vs => over cs vs
  | k + 1, c :: cs, vs => c :: overAt k cs vs
  | _ + 1, [], _ => []
def fillC (pl : List (Nat × Nat)) : List Value → List (Nat × Value) → Option (List Value)
  | cs, [] => some cs
  | cs, (i, v) :: r => match pl[i]? with
    | none => none
    | some (off, size) => match Nat.beq v.cells.size size && Nat.ble (off + size) cs.length with
      | true => fillC pl (overAt off cs v.cells.toList) r
      | false => none
theorem over_eq : ∀ (cs vs : List Value), vs.length ≤ cs.length → over cs vs = vs ++ cs.drop vs.length
  | cs, [], _ => by cases cs <;> simp [over]
  | [], v :: vs, h => by simp at h
  | c :: cs, v :: vs, h => by
    simp only [over]
    rw [over_eq cs vs (by simpa using h)]
    simp
theorem overAt_eq : ∀ (k : Nat) (cs vs : List Value), k + vs.length ≤ cs.length → overAt k cs vs = cs.take k ++ vs ++ (cs.drop k).drop vs.length
  | 0, cs, vs, h => by simp [overAt, over_eq cs vs (by omega)]
  | k + 1, [], vs, h => by simp at h
  | k + 1, c :: cs, vs, h => by
    simp only [overAt]
    rw [overAt_eq k cs vs (by simp at h; omega)]
    simp
theorem fillC_spec {pl : List (Nat × Nat)} : ∀ (vals : List (Nat × Value)) (cs cells : List Value), fillC pl cs vals = some cells → Instr.fill (pl.toArray[·]?) cs.toArray vals = some cells.toArray
  | [], cs, cells, h => by
    simp only [fillC] at h
    injection h with h
    subst h
    rfl
  | (i, v) :: r, cs, cells, h => by
    simp only [fillC] at h
    simp only [Instr.fill]
    cases hp : pl[i]? with
    | none => rw [hp] at h; cases h
    | some x =>
      obtain ⟨off, size⟩ := x
      rw [hp] at h
      simp only [] at h
      split at h
      · rename_i hb
        simp only [Bool.and_eq_true] at hb
        have h1 := Nat.eq_of_beq_eq_true hb.1
        have h2 := Nat.le_of_ble_eq_true hb.2
        have hpa : pl.toArray[i]? = some (off, size) := by simpa using hp
        rw [hpa]
        simp only []
        have h3 : (decide (v.cells.size ≠ size) || decide (off + v.cells.size > cs.toArray.size)) = false := by simp [h1]; omega
        simp only [h3, Bool.false_eq_true, if_false]
        have hf := foldl_set v.cells.toList (cs.take off) (cs.drop off) (by simp [h1]; omega)
        have hl : (cs.take off).length = off := by simp; omega
        rw [hl, List.take_append_drop] at hf
        have hf' : v.cells.zipIdx.foldl (fun cs (c, j) => cs.setIfInBounds (off + j) c) cs.toArray = (overAt off cs v.cells.toList).toArray := by
          rw [overAt_eq off cs v.cells.toList (by simp [h1]; omega)]
          simpa using hf
        rw [hf']
        exact fillC_spec r _ _ h
      · cases h
/-- A struct, written out: its places, and its cells. -/
theorem y_struct {t : TypeId} {fs : Array Field} {parts : List (Nat × Operand)} {vals : List (Nat × Value)} {z : Value} (cells : List Value) {pl : List (Nat × Nat)} {w : World} (ht : P.underlying t = some (.struct fs)) (hz : ∀ w, (zeroValue t).run P w = .ok z w)
    (hp : ∀ w, (fs.mapM fun f => (do pure (f.offset, ← sizeOf f.type) : Sem (Nat × Nat))).run P w = .ok pl.toArray w)
    (hv : evp e parts = some vals) (hc : fillC pl z.cells.toList vals = some cells) : Yld P ⟨d, .build t parts.toArray, ty, pos, af, gd⟩ e w (.agg cells.toArray) := fun ρ h => by
  have h1 := h.evp hv
  simp only [execOp, Instr.build, Sem.run_bind, hz w, Result.andThen_ok, run_underlying ht, hp w, Sem.run_pure]
  have h2 : (parts.toArray.map fun x => (x.1, ρ x.2)).toList = vals := by simpa using h1
  have hc' := fillC_spec _ _ _ hc
  simp only [Array.toArray_toList] at hc'
  simp only [h2, hc', Sem.run_pure, Result.andThen_ok]

theorem fill_seq {sz : Nat} : ∀ (vs : List Value) (pre suf : List Value) (k : Nat), pre.length = k * sz → suf.length = vs.length * sz → (∀ v ∈ vs, v.cells.size = sz) →
    Instr.fill (fun i => some (i * sz, sz)) (pre ++ suf).toArray (enumV k vs) = some (pre ++ vs.flatMap (fun v => v.cells.toList)).toArray
  | [], pre, suf, k, _, hs, _ => by
    have : suf = [] := List.eq_nil_of_length_eq_zero (by simpa using hs)
    subst this
    simp [enumV, Instr.fill]
  | v :: r, pre, suf, k, hp, hs, h => by
    have hv := h v (List.mem_cons_self ..)
    have hle : sz ≤ suf.length := by rw [hs]; simp [Nat.add_mul]
    simp only [enumV, Instr.fill]
    have h1 : ¬ (v.cells.size ≠ sz ∨ k * sz + v.cells.size > (pre ++ suf).toArray.size) := by
      simp [hv]; omega
    have h1' : (decide (v.cells.size ≠ sz) || decide (k * sz + v.cells.size > (pre ++ suf).toArray.size)) = false := by
      simp [hv]; omega
    simp only [h1', Bool.false_eq_true, if_false]
    have hf := foldl_set v.cells.toList pre suf (by simpa [hv] using hle)
    have hf' : v.cells.zipIdx.foldl (fun cs (c, j) => cs.setIfInBounds (k * sz + j) c) (pre ++ suf).toArray = (pre ++ v.cells.toList ++ suf.drop sz).toArray := by
      rw [← hp]
      simpa [hv] using hf
    rw [hf']
    have := fill_seq r (pre ++ v.cells.toList) (suf.drop sz) (k + 1) (by simp [hp, hv, Nat.add_mul]) (by simp [hs, Nat.add_mul]) (fun u hu => h u (List.mem_cons_of_mem _ hu))
    rw [this]
    simp
/-- A slice, written out element by element. -/
theorem o_lit {t E : TypeId} {n sz : Nat} {parts : List (Nat × Operand)} {vs : List Value} {z : Value} (hp : enumP 0 (parts.map (·.2)) = parts) (ht : P.underlying t = some (.slice E)) (hs : Siz P E sz) (hz : ∀ w, (zeroValue E).run P w = .ok z w)
    (hv : evs e (parts.map (·.2)) = some vs) (hn : vs.length = n) (hc : (vs.all fun v => v.cells.size == sz) = true) (hsmall : Nat.ble (n * sz) 16777216 = true) (h0 : Nat.blt 0 (n * sz) = true) :
    Dos P ⟨d, .buildSlice t n parts.toArray, ty, pos, af, gd⟩ e g.w (NewSl g n sz E (vs.flatMap fun v => v.cells.toList)) := fun ρ h => by
  have hc' : ∀ v ∈ vs, v.cells.size = sz := fun v hv => by
    have := (List.all_eq_true.1 hc) v hv
    simpa using this
  have h1 : (parts.toArray.map fun x => (x.1, ρ x.2)).toList = enumV 0 vs := by
    have := map_enumP (ρ := ρ) (parts.map (·.2)) 0
    rw [h.evs hv, hp] at this
    simpa using this
  have hl : (vs.flatMap fun v => v.cells.toList).length = n * sz := by
    subst hn
    clear hv h1 hc h hsmall h0
    induction vs with
    | nil => simp
    | cons v r ih =>
      have := ih (fun u hu => hc' u (List.mem_cons_of_mem _ hu))
      simp [this, hc' v (List.mem_cons_self ..), Nat.add_mul]; omega
  have hbig : n * sz ≤ 16777216 := Nat.le_of_ble_eq_true hsmall
  have hpos : 0 < n * sz := Nat.le_of_ble_eq_true h0
  have hn63 : n ≤ 9223372036854775807 := by
    have : n ≤ n * sz := by
      rcases Nat.eq_zero_or_pos sz with hh | hh
      · subst hh; simp at hpos
      · exact Nat.le_mul_of_pos_right n hh
    omega
  refine ⟨_, _, ?_, newSl g n sz E _ hl hn63⟩
  have h3 : ¬ (n * sz > 2 ^ 24) := by omega
  have h4 : ¬ (n * sz = 0) := by omega
  have hfill := fill_seq vs [] ((Array.range (n * sz)).map (z.cells[· % z.cells.size]!)).toList 0 (by simp) (by simp [hn]) hc'
  simp only [List.nil_append, Array.toArray_toList] at hfill
  simp only [execOp, Instr.buildSlice, Sem.run_bind, run_underlying ht, Result.andThen_ok, hs g.w, h3, if_false, h4, hz g.w, Sem.run_pure, h1, newRow, run_newObj]
  rw [hfill]
  rfl
theorem FSf.of {α : Type} {a : Option Addr} {n cap sz : Nat} {cs : List Value} (h : FSl g a n cap sz cs) (f : α → List Value) (xs : List α) (hf : ∀ x, (f x).length = sz) (hc : xs.flatMap f = cs) (hn : xs.length = n) : FSf g a n cap sz f xs := ⟨hc ▸ h, hn, hf⟩
/-- Back at a loop's head: k entries lie before the list of the loop's entry. -/
theorem Sub.backN {c b e' : Env} (k : Nat) (hb : e'.drop k = b) (hc : Sub c e') (hk : apartB (keys (e'.take k)) (keys c) (keys b) = true) : Sub (c ++ b) e' := by
  subst hb
  have := Sub.back (c := c) (p := e'.take k) (b := e'.drop k) (by rw [List.take_append_drop]; exact hc) hk
  rwa [List.take_append_drop] at this
theorem o_app {P : Program} {e : Env} {g : Gw} {d : Option Tmp} {ty : TypeId} {pos : String} {af : Array Edge} {gd : Option (Nat × Bool)} {base : Nat} {a a2 : Option Addr} {n m cap cap2 sz B : Nat} {t E : TypeId} {x y : Operand} {xs ys : List Value} {i : TypeInfo} {z : Value} (hx : ev e x = some (.slice a n cap)) (hy : ev e y = some (.slice a2 m cap2)) (ht : P.underlying t = some (.slice E)) (hi : P.info? E = some i) (hz : i.zero = some z) (hsz : i.size = sz) (hzs : z.cells.size = sz) (hp : Nat.blt 0 sz = true) (hB : i.bytes = B)
    (hown : Own g base a n cap sz E) (hfx : FSl g a n cap sz xs) (hfy : FSl g a2 m cap2 sz ys) (h1 : ∀ u ∈ ys, u.oneCell' = true) (hlim : (n + m) * B ≤ 140737488355328) (hlim2 : n + m ≤ 9223372036854775807) (hbase : base ≤ g.w.heap.size) :
    Dos P ⟨d, .call ⟨.builtin .append, [x, y].toArray, [t, t].toArray⟩, ty, pos, af, gd⟩ e g.w (Appd g base a (n + m) sz E (xs ++ ys)) :=
  o_append hx hy ht hi hz hsz hzs hp hown hfx hfy h1 (by rw [hB]; exact hlim) hlim2 hbase
/-- Two strings joined, of which the length alone is kept. -/
theorem o_sadd {P : Program} {e : Env} {g : Gw} {d : Option Tmp} {ty : TypeId} {pos : String} {af : Array Edge} {gd : Option (Nat × Bool)} {t t' : TypeId} {x y : Operand} {a b : ByteArray} (hx : ev e x = some (.string a)) (hy : ev e y = some (.string b)) (i j : Nat) (hi : a.size ≤ i) (hj : b.size ≤ j) (hlt : Nat.ble (i + j) 1000000 = true) :
    Dos P ⟨d, .binOp .add t x y t', ty, pos, af, gd⟩ e g.w (fun v w' => ∃ s : ByteArray, v = .string s ∧ s.size ≤ i + j ∧ w' = g.w) := fun ρ h => by
  have := Nat.le_of_ble_eq_true hlt
  have hy' := y_sadd (P := P) (w := g.w) (d := d) (ty := ty) (pos := pos) (af := af) (gd := gd) (t := t) (t' := t') hx hy (by omega) ρ h
  exact ⟨_, _, hy', a ++ b, rfl, by rw [ByteArray.size_append]; omega, rfl⟩
theorem size_lit (l : List UInt8) : ByteArray.size ⟨l.toArray⟩ = l.length := rfl
theorem sizes_le {s : ByteArray} {ss : List ByteArray} (m : Nat) (h : s ∈ ss) (hs : (ss.all fun s => Nat.ble s.size m) = true) : s.size ≤ m := Nat.le_of_ble_eq_true ((List.all_eq_true.1 hs) s h)
abbrev strC : ByteArray → List Value := fun s => [.string s]
abbrev intC : Int → List Value := fun z => [.int .i64 z]
abbrev u8C : Int → List Value := fun z => [.int .u8 z]
end

section
variable {P : Program} {M : Nat → Prop} {J : Gw → Prop} {T : Fact} {o : Oper} {e : Env} {g : Gw} {v : Value}
theorem og_yR {R : Gw → Gw → Prop} {d : Nat} (h : Yld P o e g.w v) (hd : o.dst = some d) (hR : R g g) (hJ : J g) (hT : T v g) : OgDo P R J T o e g := .mk fun ρ hf => .inl ⟨v, g, h ρ hf, hR, hJ, by unfold dv; rw [hd]; exact hT⟩
theorem og_y {d : Nat} (h : Yld P o e g.w v) (hd : o.dst = some d) (hJ : J g) (hT : T v g) : OgDo P (Ev M) J T o e g := og_yR h hd (Ev.refl _ _) hJ hT
theorem og_do {R' : Gw → Gw → Prop} {d : Nat} {R : Value → World → Prop} (h : Dos P o e g.w R) (hd : o.dst = some d) (k : ∀ v w', R v w' → ∃ g', g'.w = w' ∧ R' g g' ∧ J g' ∧ T v g') : OgDo P R' J T o e g := .mk fun ρ hf => by
  obtain ⟨v, w', hr, hR⟩ := h ρ hf
  obtain ⟨g', rfl, h1, h2, h3⟩ := k v w' hR
  exact .inl ⟨v, g', hr, h1, h2, by unfold dv; rw [hd]; exact h3⟩
theorem og_call {d : Nat} (h : Ent P o e g.w (Ret M g fun v g' => J g' ∧ T v g')) (hd : o.dst = some d) : OgDo P (Ev M) J T o e g := .mk fun ρ hf => .inr (.inl (by
  obtain ⟨f, args, hr, hc⟩ := h ρ hf
  refine ⟨f, args, hr, hc.mono ?_⟩
  rintro v w' ⟨g', h1, h2, h3, h4⟩
  exact ⟨g', h1, h2, h3, by unfold dv; rw [hd]; exact h4⟩))
/-- An operation without a slot (a store). -/
theorem og_du {R' : Gw → Gw → Prop} {R : World → Prop} (h : Dus P o e g.w R) (hd : o.dst = none) (k : ∀ w', R w' → ∃ g', g'.w = w' ∧ R' g g' ∧ J g' ∧ T undef g') : OgDo P R' J T o e g := .mk fun ρ hf => by
  obtain ⟨w', hr, hR⟩ := h ρ hf
  obtain ⟨g', rfl, h1, h2, h3⟩ := k w' hR
  exact .inr (.inr ⟨hd, g', hr, h1, h2, h3⟩)
/-- Each of the facts lasts. -/
def stabs (R : Gw → Gw → Prop) (J : Gw → Prop) : List Fact → Prop
  | [] => True
  | T :: s => (∀ v g g', T v g → R g g' → J g' → T v g') ∧ stabs R J s
theorem stabs_spec {R : Gw → Gw → Prop} {J : Gw → Prop} : ∀ {Ts : List Fact}, stabs R J Ts → ∀ T ∈ Ts, ∀ v g g', T v g → R g g' → J g' → T v g'
  | [], _, T, hT => by cases hT
  | U :: s, ⟨h1, h2⟩, T, hT => by
    rcases List.mem_cons.1 hT with rfl | hT
    · exact h1
    · exact stabs_spec h2 T hT
-- kinds of facts
def fEq (u : Value) : Fact := fun v _ => v = u
def fInt (p : Int → Prop) : Fact := fun v _ => ∃ r : Int, v = .int .i64 r ∧ p r
def fStr (p : ByteArray → Prop) : Fact := fun v _ => ∃ s : ByteArray, v = .string s ∧ p s
def fSl (n sz : Nat) (cs : List Value) : Fact := fun v g => ∃ b, v = .slice (some ⟨b, 0, none⟩) n n ∧ FSl g (some ⟨b, 0, none⟩) n n sz cs
/-- A pointer to a cell that is never written again. -/
def fCell (p : Value → Prop) : Fact := fun v g => ∃ b i u, v = .pointer (some ⟨b, i, none⟩) ∧ i < g.F b ∧ g.w.cell? ⟨b, i, none⟩ = some u ∧ p u
theorem fEq.stab {R : Gw → Gw → Prop} {u : Value} : ∀ v g g', fEq u v g → R g g' → J g' → fEq u v g' := fun _ _ _ h _ _ => h
theorem fInt.stab {R : Gw → Gw → Prop} {p : Int → Prop} : ∀ v g g', fInt p v g → R g g' → J g' → fInt p v g' := fun _ _ _ h _ _ => h
theorem fStr.stab {R : Gw → Gw → Prop} {p : ByteArray → Prop} : ∀ v g g', fStr p v g → R g g' → J g' → fStr p v g' := fun _ _ _ h _ _ => h
theorem fSl.stab {n sz : Nat} {cs : List Value} : ∀ v g g', fSl n sz cs v g → Ev M g g' → J g' → fSl n sz cs v g' := fun _ _ _ ⟨b, h1, h2⟩ he _ => ⟨b, h1, h2.ev he⟩
theorem fCell.stab {p : Value → Prop} : ∀ v g g', fCell p v g → Ev M g g' → J g' → fCell p v g' := fun _ _ _ ⟨b, i, u, h1, h2, h3, h4⟩ he _ => ⟨b, i, u, h1, Nat.lt_of_lt_of_le h2 (he.mono b), (he.cell b i h2).trans h3, h4⟩
end

section
variable {g : Gw} {M : Nat → Prop} {J : Gw → Prop}
theorem FSf.fz {α : Type} {b o n cap sz : Nat} {f : α → List Value} {xs : List α} (h : FSf g (some ⟨b, o, none⟩) n cap sz f xs) {i j : Nat} (hi : i < n) (hj : j < sz) : o + i * sz + j < g.F b := by
  obtain ⟨b', o', h1, h2, _⟩ := h.sl.pos (by omega)
  injection h1 with h1
  injection h1 with h1 h3
  subst h1; subst h3
  have : (i + 1) * sz ≤ n * sz := Nat.mul_le_mul_right sz (by omega)
  rw [Nat.add_mul] at this
  omega
theorem FSf.fz0 {α : Type} {b o n cap sz : Nat} {f : α → List Value} {xs : List α} (h : FSf g (some ⟨b, o, none⟩) n cap sz f xs) {i : Nat} (hi : i < n) (hj : Nat.blt 0 sz = true) : o + i * sz < g.F b := h.fz (j := 0) hi (Nat.le_of_ble_eq_true hj)
theorem FSf.cell0 {α : Type} {b o n cap sz : Nat} {f : α → List Value} {xs : List α} (h : FSf g (some ⟨b, o, none⟩) n cap sz f xs) {i : Nat} {x : α} {v : Value} (hx : xs[i]? = some x) (hj : (f x)[0]? = some v) : g.w.cell? ⟨b, o + i * sz, none⟩ = some v := h.cell (j := 0) hx hj
def fSf {α : Type} (n sz : Nat) (f : α → List Value) (xs : List α) : Fact := fun v g => ∃ b, v = .slice (some ⟨b, 0, none⟩) n n ∧ FSf g (some ⟨b, 0, none⟩) n n sz f xs
theorem fSf.stab {α : Type} {n sz : Nat} {f : α → List Value} {xs : List α} : ∀ v g g', fSf n sz f xs v g → Ev M g g' → J g' → fSf n sz f xs v g' := fun _ _ _ ⟨b, h1, h2⟩ he _ => ⟨b, h1, h2.ev he⟩
theorem fEq.mk {u : Value} : fEq u u g := rfl
theorem fInt.mk {p : Int → Prop} {r : Int} (h : p r) : fInt p (.int .i64 r) g := ⟨r, rfl, h⟩
theorem fStr.mk {p : ByteArray → Prop} {s : ByteArray} (h : p s) : fStr p (.string s) g := ⟨s, rfl, h⟩
/-- A new variable of the statement's own: its block, and that it lies behind the worlds before. -/
def fNew (B T : Nat) (cs : List Value) : Fact := fun v g => ∃ b, v = .pointer (some ⟨b, 0, none⟩) ∧ B ≤ b ∧ Blk g b T cs
theorem fNew.stab {B T : Nat} {cs : List Value} (hM : ∀ b, B ≤ b → ¬ M b) : ∀ v g g', fNew B T cs v g → Ev M g g' → J g' → fNew B T cs v g' := fun _ _ _ ⟨b, h1, h2, h3⟩ he _ => ⟨b, h1, h2, h3.ev he (hM b h2)⟩
theorem rv_blka {P : Program} {e : Env} {t ty b T sz : Nat} {cs : List Value} (h : lk e t = some (.pointer (some ⟨b, 0, none⟩))) (ha : Agg P ty) (hs : Siz P ty sz) (hb : Blk g b T cs) (hl : cs.length = sz) : RVal P e g.w (.cell t ty) (.agg cs.toArray) :=
  rv_cell h (loadVar_agg ha hs hl fun j v hj => by rw [Addr.add_lit, Nat.zero_add, hb.cell]; exact hj)
end

-- searching
theorem find_hit {α : Type} {p : α → Bool} {xs : List α} {i : Nat} {q : α} (h : (xs.take i).find? p = none) (hq : xs[i]? = some q) (hp : p q = true) : xs.find? p = some q := by
  have hi : i < xs.length := (List.getElem?_eq_some_iff.1 hq).1
  have hd : xs.drop i = q :: xs.drop (i + 1) := by
    rw [List.drop_eq_getElem_cons hi, (List.getElem?_eq_some_iff.1 hq).2]
  rw [← List.take_append_drop i xs, List.find?_append, h, hd]
  simp [hp]
theorem find_miss {α : Type} {p : α → Bool} {xs : List α} {i : Nat} {q : α} (h : (xs.take i).find? p = none) (hq : xs[i]? = some q) (hp : p q = false) : (xs.take (i + 1)).find? p = none := by
  rw [List.take_add_one, hq, List.find?_append, h]
  simp [hp]
theorem find_end {α : Type} {p : α → Bool} {xs : List α} {i : Nat} (h : (xs.take i).find? p = none) (hi : xs.length ≤ i) : xs.find? p = none := by rwa [List.take_of_length_le hi] at h
/-- The string of some bytes. -/
def ofInts (ns : List Int) : ByteArray := ns.foldl (fun r n => r.push (UInt8.ofNat n.toNat)) ByteArray.empty
theorem size_ofInts (ns : List Int) : (ofInts ns).size = ns.length := by
  have key : ∀ (ns : List Int) (s : ByteArray), (ns.foldl (fun r n => r.push (UInt8.ofNat n.toNat)) s).size = s.size + ns.length := by
    intro ns
    induction ns with
    | nil => intro s; simp
    | cons n r ih => intro s; rw [List.foldl_cons, ih]; simp [ByteArray.size_push]; omega
  have := key ns ByteArray.empty
  simpa [ofInts] using this
section
variable {P : Program} {e : Env} {g : Gw} {d : Option Tmp} {ty : TypeId} {pos : String} {af : Array Edge} {gd : Option (Nat × Bool)}
theorem y_b2s {s t E : TypeId} {x : Operand} {a : Option Addr} {n cap : Nat} {bs : List Int} (hs : P.underlying s = some (.slice E)) (hE : P.underlying E = some (.int .u8)) (ht : P.underlying t = some .string) (hx : ev e x = some (.slice a n cap)) (hf : FSl g a n cap 1 (bs.map (Value.int .u8))) :
    Yld P ⟨d, .convert s t x, ty, pos, af, gd⟩ e g.w (.string (ofInts bs)) := fun ρ h => by
  have hlen : bs.length = n := by have := hf.len; simpa using this
  have hr : (Conv.bytesToString (.slice a n cap)).run P g.w = .ok (.string (ofInts bs)) g.w := by
    rcases Nat.eq_zero_or_pos n with h0 | h0
    · subst h0
      have hb : bs = [] := List.eq_nil_of_length_eq_zero hlen
      subst hb
      cases a with
      | none => simp [Conv.bytesToString, ofInts]
      | some ad => 
        have := run_bytesToString (P := P) g.w ad 0 cap [] (by simp [loadCells, loadCellsFrom])
        simpa [ofInts] using this
    · obtain ⟨b, o, rfl⟩ := hf.at_ h0
      refine run_bytesToString g.w ⟨b, o, none⟩ n cap bs ?_
      have := run_loadCells_list (P := P) (w := g.w) ⟨b, o, none⟩ (bs.map (Value.int .u8)) (hf.cellA rfl)
      simpa [hlen] using this
  simp only [execOp, h _ _ hx, Sem.run_bind, run_convert_bytes_string (P := P) g.w s t E a n cap hs hE ht, hr, Result.andThen_ok, Sem.run_pure]
/-- A comparison that is run apart (of structs). -/
theorem y_cmp {op : BinOp} {t t' : TypeId} {x y : Operand} {vx vy v : Value} {w : World} (hx : ev e x = some vx) (hy : ev e y = some vy) (hr : ((do eqGuard op t x y vx vy; binOp op t vx vy : Sem Value)).run P w = .ok v w) : Yld P ⟨d, .binOp op t x y t', ty, pos, af, gd⟩ e w v := fun ρ h => by
  simp only [execOp, h _ _ hx, h _ _ hy]
  rw [Sem.run_bind, hr]
  rfl
end

-- a statement with one store of its own into a block that was there
/-- Only block b may have turned; and once it holds cs it holds cs. -/
def EvS (b T : Nat) (cs : List Value) : Gw → Gw → Prop := fun g g' => Ev (· = b) g g' ∧ (Blk g b T cs → Blk g' b T cs)
theorem EvS.pre (b T : Nat) (cs : List Value) : Pre (EvS b T cs) := ⟨fun g => ⟨Ev.refl _ g, fun h => h⟩, fun _ _ _ h k => ⟨h.1.trans k.1, fun x => k.2 (h.2 x)⟩⟩
theorem EvS.draw0 (b T : Nat) (cs : List Value) (g : Gw) : EvS b T cs g g.draw := ⟨g.draw_ev.of_no, fun h => h⟩
theorem Blk.draw {g : Gw} {b T : Nat} {cs : List Value} (h : Blk g b T cs) : Blk g.draw b T cs := h
/-- The block holds what it held, or what is stored. -/
def JS (b T : Nat) (c0 c1 : List Value) : Gw → Prop := fun g => Blk g b T c0 ∨ Blk g b T c1
def fDone (b T : Nat) (c1 : List Value) : Fact := fun _ g => Blk g b T c1
theorem fDone.stab {b T : Nat} {c1 : List Value} {J : Gw → Prop} : ∀ v g g', fDone b T c1 v g → EvS b T c1 g g' → J g' → fDone b T c1 v g' := fun _ _ _ h he _ => he.2 h
theorem og_store {P : Program} {e : Env} {g : Gw} {t : TypeId} {x y : Operand} {v : Value} {b i T sz : Nat} {c0 c1 vs : List Value} {o : Oper} (ho : o = ⟨none, .store t x y, o.type, o.pos, o.after, o.guard⟩) (hx : ev e x = some (.pointer (some ⟨b, i, none⟩))) (hy : ev e y = some v) (hv : v.cells = vs.toArray) (hs : Siz P t sz) (hl : vs.length = sz)
    (hJ : JS b T c0 c1 g) (h0 : splice c0 vs i = c1) (h1 : splice c1 vs i = c1) (hi0 : Nat.ble (i + sz) c0.length = true) (hi1 : Nat.ble (i + sz) c1.length = true) (hone : ∀ v ∈ vs, v.oneCell' = true) : OgDo P (EvS b T c1) (JS b T c0 c1) (fDone b T c1) o e g := by
  rw [ho]
  rcases hJ with hb | hb
  · refine og_du (o_store hx hy hv hs hl hb (Nat.le_of_ble_eq_true hi0) hone) rfl ?_
    rintro _ ⟨g', rfl, hv', hb'⟩
    rw [h0] at hb'
    exact ⟨g', rfl, ⟨hv', fun _ => hb'⟩, .inr hb', hb'⟩
  · refine og_du (o_store hx hy hv hs hl hb (Nat.le_of_ble_eq_true hi1) hone) rfl ?_
    rintro _ ⟨g', rfl, hv', hb'⟩
    rw [h1] at hb'
    exact ⟨g', rfl, ⟨hv', fun _ => hb'⟩, .inr hb', hb'⟩
end Go.Eng
