/- Memory in a walk: what is written once and stays (a ghost count of such cells for each block), what a step may turn, slices that read as lists, slices of the walk's own that grow. No program is named here. -/
import Derived.Test.YtfjbbeleejnbgaaEngA
set_option linter.unusedSimpArgs false
set_option linter.unusedVariables false
namespace Go.Eng

/-- A world, and for each block how many of its first cells are never written again. -/
structure Gw where
  w : World
  F : Nat → Nat
  ok : ∀ b, w.heap.size ≤ b → F b = 0

/-- From g to g' only blocks of M, and new ones, have turned; and no cell that is never written again. -/
structure Ev (M : Nat → Prop) (g g' : Gw) : Prop where
  os : g'.w.os = g.w.os
  tape : g'.w.tape = g.w.tape
  output : g'.w.output = g.w.output
  size : g.w.heap.size ≤ g'.w.heap.size
  mono : ∀ b, g.F b ≤ g'.F b
  cell : ∀ b o, o < g.F b → g'.w.cell? ⟨b, o, none⟩ = g.w.cell? ⟨b, o, none⟩
  keep : ∀ b, b < g.w.heap.size → ¬ M b → g'.w.heap[b]? = g.w.heap[b]? ∧ g'.F b = g.F b

def Mno : Nat → Prop := fun _ => False

section
variable {M M' : Nat → Prop} {g g' g'' : Gw}
theorem Ev.refl (M : Nat → Prop) (g : Gw) : Ev M g g := ⟨rfl, rfl, rfl, Nat.le_refl _, fun _ => Nat.le_refl _, fun _ _ _ => rfl, fun _ _ _ => ⟨rfl, rfl⟩⟩
theorem Ev.step (h : Ev M g g') (k : Ev M' g' g'') (hM : ∀ b, M' b → M b ∨ g.w.heap.size ≤ b) : Ev M g g'' :=
  ⟨k.os.trans h.os, k.tape.trans h.tape, k.output.trans h.output, Nat.le_trans h.size k.size, fun b => Nat.le_trans (h.mono b) (k.mono b),
    fun b o hb => (k.cell b o (Nat.lt_of_lt_of_le hb (h.mono b))).trans (h.cell b o hb),
    fun b hb hn => by
      obtain ⟨h1, h2⟩ := h.keep b hb hn
      obtain ⟨k1, k2⟩ := k.keep b (Nat.lt_of_lt_of_le hb h.size) (fun hm => by
        rcases hM b hm with hm | hm
        · exact hn hm
        · omega)
      exact ⟨k1.trans h1, k2.trans h2⟩⟩
theorem Ev.trans (h : Ev M g g') (k : Ev M g' g'') : Ev M g g'' := h.step k fun _ hm => .inl hm
theorem Ev.no (h : Ev M g g') (k : Ev Mno g' g'') : Ev M g g'' := h.step k fun _ hm => hm.elim
theorem Ev.weaken (h : Ev M g g') (hM : ∀ b, M b → M' b ∨ g.w.heap.size ≤ b) : Ev M' g g' := (Ev.refl M' g).step h hM
theorem Ev.of_no (h : Ev Mno g g') : Ev M g g' := h.weaken fun _ hm => hm.elim
theorem Ev.below (h : Ev Mno g g') : RowKit.Below g.w.heap.size g.w g'.w := ⟨h.os, h.tape, h.output, h.size, fun k hk => (h.keep k hk (fun x => x.elim)).1⟩
end

-- steps of the world
theorem heap_push_old (w : World) (o : Obj) (b : Nat) (h : b < w.heap.size) : (w.alloc o).heap[b]? = w.heap[b]? := RowKit.Below.heap_alloc w o b h
theorem cell_push_old (w : World) (o : Obj) (b i : Nat) (h : b < w.heap.size) : (w.alloc o).cell? ⟨b, i, none⟩ = w.cell? ⟨b, i, none⟩ := World.cell?_of_block (heap_push_old w o b h)
theorem cell_block_lt {w : World} {b i : Nat} {v : Value} (h : w.cell? ⟨b, i, none⟩ = some v) : b < w.heap.size := World.block_lt_of_cell? w _ h
theorem cell_old_none {w : World} {b i : Nat} (h : w.heap.size ≤ b) : w.cell? ⟨b, i, none⟩ = none := by
  cases hc : w.cell? ⟨b, i, none⟩ with
  | none => rfl
  | some v => have := cell_block_lt hc; omega

/-- A new block, of which the first m cells are never written again. -/
def Gw.push (g : Gw) (o : Obj) (m : Nat) : Gw := ⟨g.w.alloc o, fun b => if b = g.w.heap.size then m else g.F b, fun b hb => by
  have hb' : g.w.heap.size + 1 ≤ b := by
    have : (g.w.heap.push o).size ≤ b := hb
    simpa using this
  rw [if_neg (by omega)]
  exact g.ok b (by omega)⟩
theorem Gw.push_ev (g : Gw) (o : Obj) (m : Nat) : Ev Mno g (g.push o m) :=
  ⟨rfl, rfl, rfl, by
    show g.w.heap.size ≤ (g.w.heap.push o).size
    simp, fun b => by
    show g.F b ≤ if b = g.w.heap.size then m else g.F b
    split
    · rename_i hb; rw [g.ok b (by omega)]; exact Nat.zero_le _
    · exact Nat.le_refl _,
    fun b i hi => by
      have hb : b < g.w.heap.size := by
        rcases Nat.lt_or_ge b g.w.heap.size with h | h
        · exact h
        · rw [g.ok b h] at hi; omega
      exact cell_push_old g.w o b i hb,
    fun b hb _ => ⟨heap_push_old g.w o b hb, by
      show (if b = g.w.heap.size then m else g.F b) = g.F b
      rw [if_neg (by omega)]⟩⟩
/-- A store to a cell that may still be written. -/
def Gw.set (g : Gw) (ad : Addr) (v : Value) : Gw := ⟨g.w.setCell ad v, g.F, fun b hb => g.ok b (by simpa [World.setCell] using hb)⟩
theorem Gw.set_ev (g : Gw) {b i : Nat} (v : Value) (h : g.F b ≤ i) : Ev (· = b) g (g.set ⟨b, i, none⟩ v) :=
  ⟨rfl, rfl, rfl, by simp [Gw.set, World.setCell], fun _ => Nat.le_refl _, fun b' o ho => by
    show (g.w.setCell ⟨b, i, none⟩ v).cell? ⟨b', o, none⟩ = _
    refine World.cell?_setCell_other g.w _ _ v ?_
    intro he
    injection he with h1 h2
    subst h1; subst h2
    omega,
    fun b' _ hn => ⟨RowKit.Below.heap_setCell g.w _ v b' hn, rfl⟩⟩
def Gw.draw (g : Gw) : Gw := ⟨{ g.w with drawn := g.w.drawn + 1 }, g.F, g.ok⟩
theorem Gw.draw_ev (g : Gw) : Ev Mno g g.draw := ⟨rfl, rfl, rfl, Nat.le_refl _, fun _ => Nat.le_refl _, fun _ _ _ => rfl, fun _ _ _ => ⟨rfl, rfl⟩⟩
/-- More cells of a block are held never to be written again. -/
def Gw.frz (g : Gw) (b m : Nat) (hb : b < g.w.heap.size) : Gw := ⟨g.w, fun k => if k = b then max m (g.F b) else g.F k, fun k hk => by
  rw [if_neg (by omega)]
  exact g.ok k hk⟩
theorem Gw.frz_ev (g : Gw) (b m : Nat) (hb : b < g.w.heap.size) : Ev (· = b) g (g.frz b m hb) :=
  ⟨rfl, rfl, rfl, Nat.le_refl _, fun k => by
    show g.F k ≤ if k = b then max m (g.F b) else g.F k
    split
    · rename_i h; subst h; exact Nat.le_max_right _ _
    · exact Nat.le_refl _, fun _ _ _ => rfl, fun k _ hn => ⟨rfl, by
      show (if k = b then max m (g.F b) else g.F k) = g.F k
      rw [if_neg hn]⟩⟩

-- a block that is known whole, and may be written
def Blk (g : Gw) (b T : Nat) (cs : List Value) : Prop := g.w.heap[b]? = some (.cells cs.toArray T (0, 0)) ∧ g.F b = 0
section
variable {M : Nat → Prop} {g g' : Gw} {b T : Nat} {cs : List Value}
theorem Blk.lt (h : Blk g b T cs) : b < g.w.heap.size := (Array.getElem?_eq_some_iff.1 h.1).1
theorem Blk.cell (h : Blk g b T cs) (i : Nat) : g.w.cell? ⟨b, i, none⟩ = cs[i]? := by
  have := h.1
  simp [World.cell?, this]
theorem Blk.frozen (h : Blk g b T cs) (i : Nat) : g.w.frozen? ⟨b, i, none⟩ = false := by
  have := h.1
  simp [World.frozen?, this]
theorem Blk.ev (h : Blk g b T cs) (he : Ev M g g') (hn : ¬ M b) : Blk g' b T cs := ⟨(he.keep b h.lt hn).1.trans h.1, (he.keep b h.lt hn).2.trans h.2⟩
theorem Blk.new (g : Gw) (T : Nat) (cs : List Value) : Blk (g.push (.cells cs.toArray T) 0) g.w.heap.size T cs := ⟨heap_alloc_new g.w _, by simp [Gw.push]⟩
theorem Blk.set_ (h : Blk g b T cs) (i : Nat) (v : Value) : Blk (g.set ⟨b, i, none⟩ v) b T (cs.set i v) := by
  refine ⟨?_, h.2⟩
  have := h.1
  simp [Gw.set, World.setCell, Array.getElem?_modify, this]
theorem Blk.ne_ {b' T' : Nat} {cs' : List Value} (h : Blk g b T cs) (h' : Blk g b' T' cs') (hne : Nat.beq T T' = false) : b ≠ b' := by
  rintro rfl
  have h1 := h.1
  rw [h'.1] at h1
  injection h1 with h1
  injection h1 with _ ht
  subst ht
  simp at hne
end

-- a slice that reads as a list, for good
structure FSl (g : Gw) (a : Option Addr) (n cap sz : Nat) (cs : List Value) : Prop where
  len : cs.length = n * sz
  nc : n ≤ cap
  cm : cap ≤ 9223372036854775807
  pos : 0 < n → ∃ b o, a = some ⟨b, o, none⟩ ∧ o + n * sz ≤ g.F b ∧ ∀ j v, cs[j]? = some v → g.w.cell? ⟨b, o + j, none⟩ = some v
section
variable {M : Nat → Prop} {g g' : Gw} {a : Option Addr} {n cap sz : Nat} {cs : List Value}
theorem FSl.ev (h : FSl g a n cap sz cs) (he : Ev M g g') : FSl g' a n cap sz cs :=
  ⟨h.len, h.nc, h.cm, fun hp => by
    obtain ⟨b, o, h1, h2, h3⟩ := h.pos hp
    refine ⟨b, o, h1, Nat.le_trans h2 (he.mono b), fun j v hj => ?_⟩
    have hl : j < n * sz := by rw [← h.len]; exact (List.getElem?_eq_some_iff.1 hj).1
    rw [he.cell b (o + j) (by omega)]
    exact h3 j v hj⟩
theorem FSl.nil (g : Gw) (a : Option Addr) (cap sz : Nat) (hc : cap ≤ 9223372036854775807) : FSl g a 0 cap sz [] := ⟨by simp, Nat.zero_le _, hc, fun h => absurd h (by omega)⟩
theorem FSl.empty (h : FSl g a 0 cap sz cs) : cs = [] := List.eq_nil_of_length_eq_zero (by simpa using h.len)
/-- The address is written out where something is there. -/
theorem FSl.at_ (h : FSl g a n cap sz cs) (hp : 0 < n) : ∃ b o, a = some ⟨b, o, none⟩ := by
  obtain ⟨b, o, h1, _⟩ := h.pos hp
  exact ⟨b, o, h1⟩
theorem FSl.cell {b o : Nat} (h : FSl g (some ⟨b, o, none⟩) n cap sz cs) {j : Nat} {v : Value} (hj : cs[j]? = some v) : g.w.cell? ⟨b, o + j, none⟩ = some v := by
  have hl : j < n * sz := by rw [← h.len]; exact (List.getElem?_eq_some_iff.1 hj).1
  have hp : 0 < n := by
    rcases Nat.eq_zero_or_pos n with h0 | h0
    · subst h0; simp at hl
    · exact h0
  obtain ⟨b', o', h1, _, h3⟩ := h.pos hp
  injection h1 with h1
  injection h1 with h1 h2
  subst h1; subst h2
  exact h3 j v hj
theorem FSl.cellA (h : FSl g a n cap sz cs) {ad : Addr} (ha : a = some ad) : ∀ j v, cs[j]? = some v → g.w.cell? (ad.add j) = some v := by
  intro j v hj
  have hl : j < n * sz := by rw [← h.len]; exact (List.getElem?_eq_some_iff.1 hj).1
  have hp : 0 < n := by
    rcases Nat.eq_zero_or_pos n with h0 | h0
    · subst h0; simp at hl
    · exact h0
  obtain ⟨b, o, h1, _, h3⟩ := h.pos hp
  rw [ha] at h1
  injection h1 with h1
  subst h1
  rw [Addr.add_lit]
  exact h3 j v hj
/-- A part of a slice. -/
theorem FSl.cut (h : FSl g a n cap sz cs) {l m : Nat} (hl : l ≤ m) (hm : m ≤ n) (c : Nat) (hc : m - l ≤ c) (hcc : c ≤ 9223372036854775807) (a' : Option Addr) (ha : ∀ b o, l < m → a = some ⟨b, o, none⟩ → a' = some ⟨b, o + l * sz, none⟩) :
    FSl g a' (m - l) c sz ((cs.take (m * sz)).drop (l * sz)) := by
  have hms : m * sz ≤ n * sz := Nat.mul_le_mul_right sz hm
  refine ⟨?_, hc, hcc, fun hp => ?_⟩
  · rw [List.length_drop, List.length_take, h.len, Nat.min_eq_left hms, Nat.sub_mul]
  · obtain ⟨b, o, h1, h2, h3⟩ := h.pos (by omega)
    refine ⟨b, o + l * sz, ha b o (by omega) h1, ?_, fun j v hj => ?_⟩
    · have : l * sz + (m - l) * sz = m * sz := by rw [← Nat.add_mul]; congr 1; omega
      omega
    · rw [Nat.add_assoc]
      refine h3 _ v ?_
      rw [List.getElem?_drop] at hj
      rw [List.getElem?_take] at hj
      split at hj
      · exact hj
      · cases hj
end

-- elements that are known by a function to their cells
theorem getElem?_flatMap {α : Type} {f : α → List Value} {sz : Nat} (hf : ∀ x, (f x).length = sz) : ∀ (xs : List α) (i j : Nat) (x : α), xs[i]? = some x → j < sz → (xs.flatMap f)[i * sz + j]? = (f x)[j]?
  | [], i, j, x, h, _ => by simp at h
  | y :: ys, 0, j, x, h, hj => by
    simp at h
    subst h
    simp only [Nat.zero_mul, Nat.zero_add, List.flatMap_cons]
    rw [List.getElem?_append_left (by rw [hf]; exact hj)]
  | y :: ys, i + 1, j, x, h, hj => by
    simp at h
    simp only [List.flatMap_cons]
    rw [List.getElem?_append_right (by rw [hf, Nat.add_mul]; omega), hf, show (i + 1) * sz + j - sz = i * sz + j from by rw [Nat.add_mul]; omega]
    exact getElem?_flatMap hf ys i j x h hj
theorem length_flatMap_sz {α : Type} {f : α → List Value} {sz : Nat} (hf : ∀ x, (f x).length = sz) (xs : List α) : (xs.flatMap f).length = xs.length * sz := by
  induction xs with
  | nil => simp
  | cons x r ih => simp [ih, hf, Nat.add_mul]; omega
/-- A slice whose elements are those of xs, each of sz cells. -/
structure FSf {α : Type} (g : Gw) (a : Option Addr) (n cap sz : Nat) (f : α → List Value) (xs : List α) : Prop where
  sl : FSl g a n cap sz (xs.flatMap f)
  num : xs.length = n
  cells : ∀ x, (f x).length = sz
section
variable {α : Type} {M : Nat → Prop} {g g' : Gw} {a : Option Addr} {n cap sz : Nat} {f : α → List Value} {xs : List α}
theorem FSf.ev (h : FSf g a n cap sz f xs) (he : Ev M g g') : FSf g' a n cap sz f xs := ⟨h.sl.ev he, h.num, h.cells⟩
theorem FSf.cell {b o : Nat} (h : FSf g (some ⟨b, o, none⟩) n cap sz f xs) {i j : Nat} {x : α} {v : Value} (hx : xs[i]? = some x) (hj : (f x)[j]? = some v) : g.w.cell? ⟨b, o + i * sz + j, none⟩ = some v := by
  have hjl : j < sz := by rw [← h.cells x]; exact (List.getElem?_eq_some_iff.1 hj).1
  rw [Nat.add_assoc]
  exact h.sl.cell (by rw [getElem?_flatMap h.cells xs i j x hx hjl]; exact hj)
theorem FSf.at_ (h : FSf g a n cap sz f xs) (hp : 0 < n) : ∃ b o, a = some ⟨b, o, none⟩ := h.sl.at_ hp
theorem FSf.nil (g : Gw) (a : Option Addr) (cap sz : Nat) (f : α → List Value) (hf : ∀ x, (f x).length = sz) (hc : cap ≤ 9223372036854775807) : FSf g a 0 cap sz f [] := ⟨FSl.nil g a cap sz hc, rfl, hf⟩
theorem FSf.get (h : FSf g a n cap sz f xs) {i : Nat} (hi : i < n) : ∃ x, xs[i]? = some x := ⟨xs[i]'(by rw [h.num]; exact hi), List.getElem?_eq_getElem (by rw [h.num]; exact hi)⟩
end

-- a slice of the walk's own, to which may be appended in place
def Own (g : Gw) (base : Nat) (a : Option Addr) (n cap sz T : Nat) : Prop :=
  (a = none ∧ n = 0 ∧ cap = 0) ∨ ∃ b cur, a = some ⟨b, 0, none⟩ ∧ base ≤ b ∧ g.w.heap[b]? = some (.cells cur T (0, 0)) ∧ n ≤ cap ∧ cap ≤ 9223372036854775807 ∧ cur.size = cap * sz ∧ g.F b = n * sz
def blkOf (a : Option Addr) : Nat → Prop := fun b => a.map (·.block) = some b
section
variable {M : Nat → Prop} {g g' : Gw} {base : Nat} {a : Option Addr} {n cap sz T : Nat}
theorem Own.nil (g : Gw) (base sz T : Nat) : Own g base none 0 0 sz T := .inl ⟨rfl, rfl, rfl⟩
theorem Own.ev (h : Own g base a n cap sz T) (he : Ev M g g') (hM : ∀ b, blkOf a b → base ≤ b → ¬ M b) : Own g' base a n cap sz T := by
  rcases h with h | ⟨b, cur, h1, h2, h3, h4, h5, h6, h7⟩
  · exact .inl h
  · have hb : b < g.w.heap.size := (Array.getElem?_eq_some_iff.1 h3).1
    obtain ⟨k1, k2⟩ := he.keep b hb (hM b (by simp [blkOf, h1]) h2)
    exact .inr ⟨b, cur, h1, h2, k1.trans h3, h4, h5, h6, k2.trans h7⟩
theorem Own.blk_base (h : Own g base a n cap sz T) : ∀ b, blkOf a b → base ≤ b := by
  intro b hb
  rcases h with ⟨rfl, _⟩ | ⟨b', cur, rfl, h2, _⟩
  · simp [blkOf] at hb
  · simp [blkOf] at hb; omega
theorem Own.ne_blk {b T' : Nat} {cs : List Value} (h : Own g base a n cap sz T) (hb : Blk g b T' cs) (hne : Nat.beq T' T = false) : ¬ blkOf a b := by
  intro hk
  rcases h with ⟨rfl, _⟩ | ⟨b', cur, rfl, h2, h3, _⟩
  · simp [blkOf] at hk
  · simp [blkOf] at hk
    subst hk
    rw [hb.1] at h3
    injection h3 with h3
    injection h3 with _ ht
    subst ht
    simp at hne
theorem Own.cap_le (h : Own g base a n cap sz T) : n ≤ cap ∧ cap ≤ 9223372036854775807 := by
  rcases h with ⟨_, rfl, rfl⟩ | ⟨b', cur, rfl, h2, h3, h4, h5, _⟩
  · omega
  · exact ⟨h4, h5⟩
theorem Own.weaken {base' : Nat} (h : Own g base a n cap sz T) (hb : base' ≤ base) : Own g base' a n cap sz T := by
  rcases h with h | ⟨b, cur, h1, h2, rest⟩
  · exact .inl h
  · exact .inr ⟨b, cur, h1, by omega, rest⟩
end

-- operations on memory
section mem
variable {P : Program} {e : Env} {g : Gw} {d : Option Tmp} {ty : TypeId} {pos : String} {af : Array Edge} {gd : Option (Nat × Bool)}
/-- The type's values are kept in one cell. -/
def One (P : Program) (t : TypeId) : Prop := ∀ w, (isAgg t).run P w = .ok false w
def Agg (P : Program) (t : TypeId) : Prop := ∀ w, (isAgg t).run P w = .ok true w
def Siz (P : Program) (t : TypeId) (n : Nat) : Prop := ∀ w, (sizeOf t).run P w = .ok n w

theorem loadVar_one {t : TypeId} (h1 : One P t) {ad : Addr} {w : World} {v : Value} (hc : w.cell? ad = some v) : (loadVar t ad).run P w = .ok v w := by
  unfold loadVar
  simp [h1 w, hc]
theorem loadVar_agg {t : TypeId} {sz : Nat} (h1 : Agg P t) (hs : Siz P t sz) {ad : Addr} {w : World} {vs : List Value} (hl : vs.length = sz) (hc : ∀ j v, vs[j]? = some v → w.cell? (ad.add j) = some v) : (loadVar t ad).run P w = .ok (.agg vs.toArray) w := by
  unfold loadVar
  have := run_loadCells_list (P := P) (w := w) ad vs hc
  rw [hl] at this
  simp [h1 w, hs w, this]
theorem y_load {t : TypeId} {x : Operand} {ad : Addr} {v : Value} {w : World} (hx : ev e x = some (.pointer (some ad))) (h1 : One P t) (hc : w.cell? ad = some v) : Yld P ⟨d, .load t x, ty, pos, af, gd⟩ e w v := fun ρ h => by
  simp [execOp, Instr.loadAt, Instr.sureAddr, h _ _ hx, loadVar_one h1 hc]
theorem y_loada {t : TypeId} {sz : Nat} {x : Operand} {ad : Addr} {vs : List Value} {w : World} (hx : ev e x = some (.pointer (some ad))) (h1 : Agg P t) (hs : Siz P t sz) (hl : vs.length = sz) (hc : ∀ j v, vs[j]? = some v → w.cell? (ad.add j) = some v) :
    Yld P ⟨d, .load t x, ty, pos, af, gd⟩ e w (.agg vs.toArray) := fun ρ h => by
  simp [execOp, Instr.loadAt, Instr.sureAddr, h _ _ hx, loadVar_agg h1 hs hl hc]
-- out of a block that is known whole
theorem y_load_blk {t : TypeId} {x : Operand} {b i T : Nat} {cs : List Value} {v : Value} (hx : ev e x = some (.pointer (some ⟨b, i, none⟩))) (h1 : One P t) (hb : Blk g b T cs) (hv : cs[i]? = some v) : Yld P ⟨d, .load t x, ty, pos, af, gd⟩ e g.w v :=
  y_load hx h1 (by rw [hb.cell, hv])
theorem y_loada_blk {t : TypeId} {sz : Nat} {x : Operand} {b i T : Nat} {cs vs : List Value} (hx : ev e x = some (.pointer (some ⟨b, i, none⟩))) (h1 : Agg P t) (hs : Siz P t sz) (hb : Blk g b T cs) (hv : (cs.drop i).take sz = vs) (hl : vs.length = sz) : Yld P ⟨d, .load t x, ty, pos, af, gd⟩ e g.w (.agg vs.toArray) :=
  y_loada hx h1 hs hl fun j v hj => by
    rw [Addr.add_lit, hb.cell]
    rw [← hv, List.getElem?_take] at hj
    split at hj
    · rw [List.getElem?_drop] at hj; exact hj
    · cases hj
-- out of a slice whose elements are known
theorem y_load_el {α : Type} {t : TypeId} {x : Operand} {b o i j n cap sz : Nat} {f : α → List Value} {xs : List α} {q : α} {v : Value} (hx : ev e x = some (.pointer (some ⟨b, o + i * sz + j, none⟩))) (h1 : One P t) (hs : FSf g (some ⟨b, o, none⟩) n cap sz f xs) (hq : xs[i]? = some q) (hv : (f q)[j]? = some v) :
    Yld P ⟨d, .load t x, ty, pos, af, gd⟩ e g.w v := y_load hx h1 (hs.cell hq hv)
theorem y_load_el0 {α : Type} {t : TypeId} {x : Operand} {b o i n cap sz : Nat} {f : α → List Value} {xs : List α} {q : α} {v : Value} (hx : ev e x = some (.pointer (some ⟨b, o + i * sz, none⟩))) (h1 : One P t) (hs : FSf g (some ⟨b, o, none⟩) n cap sz f xs) (hq : xs[i]? = some q) (hv : (f q)[0]? = some v) :
    Yld P ⟨d, .load t x, ty, pos, af, gd⟩ e g.w v := y_load hx h1 (hs.cell (j := 0) hq hv)
theorem y_loada_el {α : Type} {t : TypeId} {x : Operand} {b o i n cap sz : Nat} {f : α → List Value} {xs : List α} {q : α} (hx : ev e x = some (.pointer (some ⟨b, o + i * sz, none⟩))) (h1 : Agg P t) (hsz : Siz P t sz) (hs : FSf g (some ⟨b, o, none⟩) n cap sz f xs) (hq : xs[i]? = some q) :
    Yld P ⟨d, .load t x, ty, pos, af, gd⟩ e g.w (.agg (f q).toArray) := y_loada hx h1 hsz (hs.cells q) fun j v hj => by
  rw [Addr.add_lit]
  exact hs.cell hq hj
-- addresses
theorem y_fieldAddr {s : TypeId} {x : Operand} {i fo fz : Nat} {b o : Nat} {fs : Array Field} {fd : Field} (ht : P.underlying s = some (.struct fs)) (hf : fs[i]? = some fd) (hof : fd.offset = fo) (hfz : Siz P fd.type fz) (hz : Nat.beq fz 0 = false) (hx : ev e x = some (.pointer (some ⟨b, o, none⟩))) {w : World} :
    Yld P ⟨d, .fieldAddr s x i, ty, pos, af, gd⟩ e w (.pointer (some ⟨b, o + fo, none⟩)) := fun ρ h => by
  subst hof
  have hz' : fz ≠ 0 := fun hh => by subst hh; simp at hz
  simp [execOp, Instr.fieldAt, Instr.sureAddr, run_underlying ht, hf, h _ _ hx, fieldPlace, Addr.add_lit, hfz w, hz']
theorem y_indexAddr {t E : TypeId} {sz : Nat} {x y : Operand} {b o n cap : Nat} {k : IntKind} {i : Nat} (ht : P.underlying t = some (.slice E)) (hs : Siz P E sz) (hx : ev e x = some (.slice (some ⟨b, o, none⟩) n cap)) (hy : ev e y = some (.int k (i : Int))) (hi : i < n) {w : World} :
    Yld P ⟨d, .indexAddr t x y, ty, pos, af, gd⟩ e w (.pointer (some ⟨b, o + i * sz, none⟩)) := fun ρ h => by
  simp [execOp, Instr.indexAt, asIntOf, run_underlying ht, hs w, h _ _ hx, h _ _ hy, hi, Addr.add_lit]
theorem y_indexAddr_int {t E : TypeId} {sz : Nat} {x y : Operand} {b o n cap : Nat} {k : IntKind} {i : Int} (ht : P.underlying t = some (.slice E)) (hs : Siz P E sz) (hx : ev e x = some (.slice (some ⟨b, o, none⟩) n cap)) (hy : ev e y = some (.int k i)) (h0 : 0 ≤ i) (hi : i < n) {w : World} :
    Yld P ⟨d, .indexAddr t x y, ty, pos, af, gd⟩ e w (.pointer (some ⟨b, o + i.toNat * sz, none⟩)) := by
  obtain ⟨m, rfl⟩ := Int.eq_ofNat_of_zero_le h0
  exact y_indexAddr ht hs hx hy (by omega)
-- parts of slices
theorem y_slice {t E : TypeId} {sz : Nat} {x : Operand} {lo hi : Option Operand} {a : Option Addr} {n cap l m : Nat} (ht : P.underlying t = some (.slice E)) (hs : Siz P E sz) (hx : ev e x = some (.slice a n cap))
    (hlo : match lo with | none => l = 0 | some y => ∃ k, ev e y = some (.int k (l : Int))) (hhi : match hi with | none => m = n | some y => ∃ k, ev e y = some (.int k (m : Int))) (hlm : l ≤ m) (hm : m ≤ cap) {w : World} :
    Yld P ⟨d, .slice t x lo hi none, ty, pos, af, gd⟩ e w (.slice (if cap = l then a else a.map (·.add (l * sz))) (m - l) (cap - l)) := fun ρ h => by
  have hu := run_underlying ht
  have hb : ∀ (k : IntKind) (i y : Nat) (c : BoundsCode) (w : World), i ≤ y → (Instr.sliceBound (.int k (i : Int)) y c).run P w = .ok i w := fun k i y c w hiy => by
    simp [Instr.sliceBound, asIntOf, hiy]
  cases lo with
  | none =>
    subst hlo
    cases hi with
    | none => subst hhi; simp [execOp, Instr.sliceAt, Instr.slice, Instr.sliceBounds, hu, hs w, h _ _ hx]
    | some y => obtain ⟨k, hk⟩ := hhi; simp [execOp, Instr.sliceAt, Instr.slice, Instr.sliceBounds, hu, hs w, h _ _ hx, h _ _ hk, hb _ _ _ _ _ hm]
  | some z =>
    obtain ⟨k', hk'⟩ := hlo
    cases hi with
    | none => subst hhi; simp [execOp, Instr.sliceAt, Instr.slice, Instr.sliceBounds, hu, hs w, h _ _ hx, h _ _ hk', hb _ _ _ _ _ hlm]
    | some y => obtain ⟨k, hk⟩ := hhi; simp [execOp, Instr.sliceAt, Instr.slice, Instr.sliceBounds, hu, hs w, h _ _ hx, h _ _ hk, h _ _ hk', hb _ _ _ _ _ hm, hb _ _ _ _ _ hlm]
-- structs by value
theorem y_field {s : TypeId} {x : Operand} {i : Nat} {fs : Array Field} {fd : Field} {vs : List Value} {v : Value} (ht : P.underlying s = some (.struct fs)) (hf : fs[i]? = some fd) (h1 : One P fd.type) (hx : ev e x = some (.agg vs.toArray)) (hv : vs[fd.offset]? = some v) {w : World} :
    Yld P ⟨d, .field s x i, ty, pos, af, gd⟩ e w v := fun ρ h => by
  simp [execOp, Instr.field, run_underlying ht, hf, h _ _ hx, asAgg, part, h1 w, hv]
theorem y_fielda {s : TypeId} {x : Operand} {i sz : Nat} {fs : Array Field} {fd : Field} {vs us : List Value} (ht : P.underlying s = some (.struct fs)) (hf : fs[i]? = some fd) (h1 : Agg P fd.type) (hs : Siz P fd.type sz) (hx : ev e x = some (.agg vs.toArray)) (hv : (vs.drop fd.offset).take sz = us) {w : World} :
    Yld P ⟨d, .field s x i, ty, pos, af, gd⟩ e w (.agg us.toArray) := fun ρ h => by
  simp [execOp, Instr.field, run_underlying ht, hf, h _ _ hx, asAgg, part, h1 w, hs w, hv]
theorem y_build {t : TypeId} {fs : Array Field} {parts : List (Nat × Operand)} {vals : List (Nat × Value)} {z : Value} {places : Array (Nat × Nat)} {cells : Array Value} {w : World} (ht : P.underlying t = some (.struct fs)) (hz : ∀ w, (zeroValue t).run P w = .ok z w)
    (hp : ∀ w, (fs.mapM fun f => (do pure (f.offset, ← sizeOf f.type) : Sem (Nat × Nat))).run P w = .ok places w)
    (hv : ∀ ρ, Fits e ρ → parts.map (fun x => (x.1, ρ x.2)) = vals) (hc : Instr.fill (places[·]?) z.cells vals = some cells) : Yld P ⟨d, .build t parts.toArray, ty, pos, af, gd⟩ e w (.agg cells) := fun ρ h => by
  have h1 := hv ρ h
  simp only [execOp, Instr.build, Sem.run_bind, hz w, Result.andThen_ok, run_underlying ht, hp w, Sem.run_pure]
  have h2 : (parts.toArray.map fun x => (x.1, ρ x.2)).toList = vals := by simpa using h1
  simp only [h2, hc, Sem.run_pure, Result.andThen_ok]
-- new variables
/-- What a new variable leaves: its block, known whole. -/
def NewBlk (g : Gw) (T : Nat) (cs : List Value) (v : Value) (w' : World) : Prop := ∃ g' b, g'.w = w' ∧ v = .pointer (some ⟨b, 0, none⟩) ∧ Ev Mno g g' ∧ Blk g' b T cs ∧ b = g.w.heap.size
theorem newBlk (g : Gw) (T : Nat) (cs : List Value) : NewBlk g T cs (.pointer (some ⟨g.w.heap.size, 0, none⟩)) (g.w.alloc (.cells cs.toArray T)) :=
  ⟨g.push (.cells cs.toArray T) 0, g.w.heap.size, rfl, rfl, g.push_ev _ _, Blk.new g T cs, rfl⟩
theorem o_alloc {t : TypeId} {z : Value} (hz : ∀ w, (zeroValue t).run P w = .ok z w) {cs : List Value} (hc : z.cells = cs.toArray) : Dos P ⟨d, .alloc t, ty, pos, af, gd⟩ e g.w (NewBlk g t cs) := fun ρ _ =>
  ⟨_, _, by simp only [execOp, Instr.alloc, Sem.run_bind, hz g.w, Result.andThen_ok, newVar, newRow, run_newObj, Sem.run_pure, hc]; rfl, newBlk g t cs⟩
theorem o_box {t : TypeId} {x : Operand} {v : Value} (hx : ev e x = some v) {cs : List Value} (hc : v.cells = cs.toArray) : Dos P ⟨d, .box t x, ty, pos, af, gd⟩ e g.w (NewBlk g t cs) := fun ρ h =>
  ⟨_, _, by simp only [execOp, Instr.box, h _ _ hx, Sem.run_bind, newVar, newRow, run_newObj, Result.andThen_ok, Sem.run_pure, hc]; rfl, newBlk g t cs⟩
-- a store into a block that is known whole
def Stored (g : Gw) (b T : Nat) (cs : List Value) (w' : World) : Prop := ∃ g', g'.w = w' ∧ Ev (· = b) g g' ∧ Blk g' b T cs
/-- vs laid into cs from i on. -/
def splice (cs vs : List Value) : Nat → List Value := fun i => match vs with
  | [] => cs
  | v :: r => splice (cs.set i v) r (i + 1)
theorem run_storeCells_blk {b T : Nat} : ∀ (vs : List Value) (g : Gw) (cs : List Value) (i k : Nat), Blk g b T cs → i + k + vs.length ≤ cs.length → (∀ v ∈ vs, v.oneCell' = true) →
    ∃ w', (storeCells ⟨b, i, none⟩ vs k).run P g.w = .ok () w' ∧ Stored g b T (splice cs vs (i + k)) w'
  | [], g, cs, i, k, hb, hl, h1 => ⟨g.w, by simp [storeCells], g, rfl, Ev.refl _ _, hb⟩
  | v :: r, g, cs, i, k, hb, hl, h1 => by
    simp only [List.length_cons] at hl
    have hc : (g.w.cell? ⟨b, i + k, none⟩).isSome = true := by rw [hb.cell]; simp; omega
    obtain ⟨u, hu⟩ := Option.isSome_iff_exists.1 hc
    have hs : (store ⟨b, i + k, none⟩ v).run P g.w = .ok () (g.w.setCell ⟨b, i + k, none⟩ v) := by
      rw [run_store _ _ _ _ _ (h1 v (List.mem_cons_self ..))]
      simp [hu, hb.frozen]
    obtain ⟨w', hr, g', hw, he, hb'⟩ := run_storeCells_blk r (g.set ⟨b, i + k, none⟩ v) (cs.set (i + k) v) i (k + 1) (hb.set_ _ _) (by simp; omega) (fun x hx => h1 x (List.mem_cons_of_mem _ hx))
    refine ⟨w', ?_, g', hw, ((g.set_ev v (by rw [hb.2]; exact Nat.zero_le _)).trans he), hb'⟩
    simp only [storeCells, Sem.run_bind, Addr.add_lit, hs, Result.andThen_ok]
    exact hr
theorem o_store {t : TypeId} {x y : Operand} {v : Value} {b i T sz : Nat} {cs vs : List Value} (hx : ev e x = some (.pointer (some ⟨b, i, none⟩))) (hy : ev e y = some v) (hv : v.cells = vs.toArray) (hs : Siz P t sz) (hl : vs.length = sz) (hb : Blk g b T cs)
    (hil : i + sz ≤ cs.length) (h1 : ∀ v ∈ vs, v.oneCell' = true) : Dus P ⟨d, .store t x y, ty, pos, af, gd⟩ e g.w (Stored g b T (splice cs vs i)) := fun ρ h => by
  obtain ⟨w', hr, hS⟩ := run_storeCells_blk (P := P) vs g cs i 0 hb (by omega) h1
  refine ⟨w', ?_, hS⟩
  simp [execOp, Instr.storeAt, Instr.sureAddr, storeVar, h _ _ hx, h _ _ hy, hv, hs g.w, hl, hr]
-- a new slice, written out
/-- What a written-out slice leaves: it reads for good as its cells, and may be appended to. -/
def NewSl (g : Gw) (n sz T : Nat) (cs : List Value) (v : Value) (w' : World) : Prop := ∃ g' b, g'.w = w' ∧ v = .slice (some ⟨b, 0, none⟩) n n ∧ Ev Mno g g' ∧ FSl g' (some ⟨b, 0, none⟩) n n sz cs ∧ Own g' g.w.heap.size (some ⟨b, 0, none⟩) n n sz T ∧ b = g.w.heap.size
theorem newSl (g : Gw) (n sz T : Nat) (cs : List Value) (hl : cs.length = n * sz) (hn : n ≤ 9223372036854775807) : NewSl g n sz T cs (.slice (some ⟨g.w.heap.size, 0, none⟩) n n) (g.w.alloc (.cells cs.toArray T)) := by
  have hb : (g.push (.cells cs.toArray T) (n * sz)).w.heap[g.w.heap.size]? = some (.cells cs.toArray T (0, 0)) := heap_alloc_new g.w _
  refine ⟨g.push (.cells cs.toArray T) (n * sz), g.w.heap.size, rfl, rfl, g.push_ev _ _, ⟨hl, Nat.le_refl _, hn, fun _ => ⟨_, 0, rfl, by simp [Gw.push], fun j v hj => ?_⟩⟩, .inr ⟨_, _, rfl, Nat.le_refl _, hb, Nat.le_refl _, hn, by simpa using hl, by simp [Gw.push]⟩, rfl⟩
  rw [Nat.zero_add]
  simpa [World.cell?, hb] using hj
theorem o_buildSlice {t E : TypeId} {n sz : Nat} {parts : List (Nat × Operand)} {vals : List (Nat × Value)} {z : Value} {cs : List Value} (ht : P.underlying t = some (.slice E)) (hs : Siz P E sz) (hz : ∀ w, (zeroValue E).run P w = .ok z w)
    (hv : ∀ ρ, Fits e ρ → parts.map (fun x => (x.1, ρ x.2)) = vals) (hsmall : n * sz ≤ 16777216) (h0 : 0 < n * sz) (hc : Instr.fill (fun i => some (i * sz, sz)) ((Array.range (n * sz)).map (z.cells[· % z.cells.size]!)) vals = some cs.toArray) (hl : cs.length = n * sz) (hn : n ≤ 9223372036854775807) :
    Dos P ⟨d, .buildSlice t n parts.toArray, ty, pos, af, gd⟩ e g.w (NewSl g n sz E cs) := fun ρ h => by
  have h1 := hv ρ h
  have h2 : (parts.toArray.map fun x => (x.1, ρ x.2)).toList = vals := by simpa using h1
  refine ⟨_, _, ?_, newSl g n sz E cs hl hn⟩
  have h3 : ¬ (n * sz > 2 ^ 24) := by omega
  have h4 : ¬ (n * sz = 0) := by omega
  simp only [execOp, Instr.buildSlice, Sem.run_bind, run_underlying ht, Result.andThen_ok, hs g.w, h3, if_false, h4, hz g.w, Sem.run_pure, h2, hc, newRow, run_newObj]
  rfl
-- append
/-- What an append leaves: the longer slice reads for good, and may be appended to. -/
def Appd (g : Gw) (base : Nat) (a : Option Addr) (n sz T : Nat) (cs : List Value) (v : Value) (w' : World) : Prop := ∃ g' a' cap', g'.w = w' ∧ v = .slice a' n cap' ∧ Ev (blkOf a) g g' ∧ FSl g' a' n cap' sz cs ∧ Own g' base a' n cap' sz T ∧ (n = 0 → a' = a)
theorem run_append (g : Gw) {base : Nat} {a a2 : Option Addr} {n m cap cap2 sz : Nat} {t ty E : TypeId} {xs ys : List Value} {i : TypeInfo} {z : Value} (ht : P.underlying t = some (.slice E)) (hi : P.info? E = some i) (hz : i.zero = some z) (hsz : i.size = sz) (hzs : z.cells.size = sz) (hp : 0 < sz)
    (hown : Own g base a n cap sz E) (hx : FSl g a n cap sz xs) (hy : FSl g a2 m cap2 sz ys) (h1 : ∀ u ∈ ys, u.oneCell' = true) (hlim : (n + m) * i.bytes ≤ 140737488355328) (hlim2 : n + m ≤ 9223372036854775807) (hbase : base ≤ g.w.heap.size) :
    ∃ v w', (Builtin.append_ #[t, t] ty #[.slice a n cap, .slice a2 m cap2]).run P g.w = .ok v w' ∧ Appd g base a (n + m) sz E (xs ++ ys) v w' := by
  have hrow : g.w.ownsRow base E sz (.slice a n cap) n xs := by
    refine ⟨hx.len, ?_⟩
    rcases hown with ⟨rfl, rfl, rfl⟩ | ⟨b, cur, rfl, h2, h3, h4, h5, h6, h7⟩
    · exact .inl ⟨rfl, rfl⟩
    · refine .inr ⟨b, cap, cur, rfl, h2, h3, h4, by simpa [maxLen] using h5, h6, ?_⟩
      apply List.ext_getElem?
      intro j
      by_cases hj : j < n * sz
      · have hjx : xs[j]? = some (xs[j]'(by rw [hx.len]; exact hj)) := List.getElem?_eq_getElem _
        have hc := hx.cell hjx
        rw [hjx, List.getElem?_take, if_pos hj]
        rw [Nat.zero_add] at hc
        simpa [World.cell?, h3] using hc
      · rw [List.getElem?_take, if_neg hj, List.getElem?_eq_none (by rw [hx.len]; omega)]
  by_cases hm : m = 0
  · subst hm
    have hy0 : ys = [] := hy.empty
    subst hy0
    have hcl := hown.cap_le
    refine ⟨.slice a n cap, g.w, ?_, g, a, cap, rfl, rfl, Ev.refl _ _, by simpa using hx, hown, fun _ => rfl⟩
    rcases a2 with _ | ad2
    · rcases hown with ⟨rfl, rfl, rfl⟩ | ⟨b, cur, rfl, h2, h3, h4, h5, h6, h7⟩
      · simp [Builtin.append_, run_underlying ht, sizeOf, typeInfo, hi, Builtin.lenOf, Builtin.firstCells]
      · simp [Builtin.append_, run_underlying ht, sizeOf, typeInfo, hi, Builtin.lenOf, Builtin.firstCells, h4, storeCells]
    · rcases hown with ⟨rfl, rfl, rfl⟩ | ⟨b, cur, rfl, h2, h3, h4, h5, h6, h7⟩
      · simp [Builtin.append_, run_underlying ht, sizeOf, typeInfo, hi, Builtin.lenOf, Builtin.firstCells, loadCells, loadCellsFrom]
      · simp [Builtin.append_, run_underlying ht, sizeOf, typeInfo, hi, Builtin.lenOf, Builtin.firstCells, h4, storeCells, loadCells, loadCellsFrom]
  · obtain ⟨b2, o2, ha2, _, _⟩ := hy.pos (by omega)
    obtain ⟨v', w', hr, ho', hg', _⟩ := run_append_own (P := P) g.w base t ty E i z sz i.bytes ht hi hz hsz rfl hzs hp (.slice a n cap) n xs hrow ⟨b2, o2, none⟩ m cap2 ys hy.len (by
      intro j u hu
      exact hy.cellA ha2 j u hu) h1 (by simpa [maxLen] using hlim2) hlim hbase
    subst ha2
    refine ⟨v', w', hr, ?_⟩
    obtain ⟨hlen, ho'⟩ := ho'
    rcases ho' with ⟨_, h0⟩ | ⟨b, cap', cur, hv, hbb, hh, hnc, hcm, hcs, htk⟩
    · omega
    · have hlt : b < w'.heap.size := (Array.getElem?_eq_some_iff.1 hh).1
      have hrowcell : ∀ j u, (xs ++ ys)[j]? = some u → w'.cell? ⟨b, j, none⟩ = some u := by
        intro j u hu
        rw [← htk, List.getElem?_take] at hu
        split at hu
        · simpa [World.cell?, hh] using hu
        · cases hu
      -- the count of the new world
      have hold : ∀ k, k < g.w.heap.size → ¬ blkOf a k → w'.heap[k]? = g.w.heap[k]? := fun k hk hnb => hg'.block k hk (by
        intro he
        apply hnb
        cases a with
        | none => simp [Value.ownBlock] at he
        | some ad => simp [Value.ownBlock] at he; simp [blkOf, he])
      have hFb : blkOf a b ∨ g.F b = 0 := by
        by_cases hb' : blkOf a b
        · exact .inl hb'
        · right
          rcases Nat.lt_or_ge b g.w.heap.size with hbl | hbl
          · exfalso
            -- an old block that is not the row's own cannot be the new row
            rcases hown with ⟨rfl, rfl, rfl⟩ | ⟨b0, cur0, rfl, h2, h3, h4, h5, h6, h7⟩
            · have hrn := run_append_nil (P := P) g.w t ty E i z ht hi hz ⟨b2, o2, none⟩ m cap2 ys (by rw [hsz]; exact hy.len) (by
                intro j u hu
                exact hy.cellA rfl j u hu) (by omega) (by omega) (by have hb := hlim; simp only [Nat.zero_add] at hb; omega)
              rw [hrn] at hr
              injection hr with hr _
              rw [hv] at hr
              injection hr with hr _
              injection hr with hr
              injection hr with hr _
              omega
            · by_cases hroom : n + m ≤ cap
              · have hfit : n * sz + ys.length ≤ cur0.size := by rw [hy.len, h6, ← Nat.add_mul]; exact Nat.mul_le_mul_right _ hroom
                have hrr := run_append_room (P := P) g.w t ty E i ht hi b0 n cap cur0 h3 ⟨b2, o2, none⟩ m cap2 ys (by rw [hsz]; exact hy.len) (by
                  intro j u hu
                  exact hy.cellA rfl j u hu) h1 hroom (by rw [hsz]; exact hfit)
                rw [hrr] at hr
                injection hr with hr _
                rw [hv] at hr
                injection hr with hr _
                injection hr with hr
                injection hr with hr _
                exact hb' (by simp [blkOf, hr])
              · have hrg := run_append_grow (P := P) g.w t ty E i z ht hi hz ⟨b0, 0, none⟩ n cap xs (by rw [hsz]; exact hx.len) (by
                  intro j u hu
                  exact hx.cellA rfl j u hu) ⟨b2, o2, none⟩ m cap2 ys (by rw [hsz]; exact hy.len) (by
                  intro j u hu
                  exact hy.cellA rfl j u hu) (by omega) (by omega) (growslice_fits (by omega) hlim)
                rw [hrg] at hr
                injection hr with hr _
                rw [hv] at hr
                injection hr with hr _
                injection hr with hr
                injection hr with hr _
                omega
          · exact g.ok b hbl
      let g' : Gw := ⟨w', fun k => if k = b then (n + m) * sz else g.F k, fun k hk => by
        rw [if_neg (by omega)]
        exact g.ok k (by have := hg'.size; omega)⟩
      have hFle : ∀ k, g.F k ≤ g'.F k := by
        intro k
        show g.F k ≤ if k = b then (n + m) * sz else g.F k
        split
        · rename_i hk
          subst hk
          rcases hFb with hFb | hFb
          · rcases hown with ⟨rfl, _⟩ | ⟨b0, cur0, rfl, h2, h3, h4, h5, h6, h7⟩
            · simp [blkOf] at hFb
            · simp [blkOf] at hFb
              subst hFb
              rw [h7]
              exact Nat.mul_le_mul_right _ (by omega)
          · rw [hFb]; exact Nat.zero_le _
        · exact Nat.le_refl _
      refine ⟨g', some ⟨b, 0, none⟩, cap', rfl, hv, ⟨hg'.os, hg'.tape, hg'.output, hg'.size, hFle, fun k o ho => ?_, fun k hk hnb => ?_⟩, ⟨hlen, hnc, by simpa [maxLen] using hcm, fun _ => ⟨b, 0, rfl, by simp [g'], fun j u hu => by rw [Nat.zero_add]; exact hrowcell j u hu⟩⟩, .inr ⟨b, cur, rfl, hbb, hh, hnc, by simpa [maxLen] using hcm, hcs, by simp [g']⟩, fun h0 => by omega⟩
      · -- cells that are never written again
        have hk : k < g.w.heap.size := by
          rcases Nat.lt_or_ge k g.w.heap.size with h | h
          · exact h
          · rw [g.ok k h] at ho; omega
        by_cases hkb : blkOf a k
        · rcases hown with ⟨rfl, _⟩ | ⟨b0, cur0, rfl, h2, h3, h4, h5, h6, h7⟩
          · simp [blkOf] at hkb
          · simp [blkOf] at hkb
            subst hkb
            rw [h7] at ho
            have hx0 : xs[o]? = some (xs[o]'(by rw [hx.len]; exact ho)) := List.getElem?_eq_getElem _
            have hc0 := hx.cell hx0
            rw [Nat.zero_add] at hc0
            rw [hc0]
            by_cases hbk : b = b0
            · subst hbk
              exact hrowcell o _ (by rw [List.getElem?_append_left (by rw [hx.len]; exact ho)]; exact hx0)
            · -- the old row was left as it was
              by_cases hroom : n + m ≤ cap
              · exfalso
                have hfit : n * sz + ys.length ≤ cur0.size := by rw [hy.len, h6, ← Nat.add_mul]; exact Nat.mul_le_mul_right _ hroom
                have hrr := run_append_room (P := P) g.w t ty E i ht hi b0 n cap cur0 h3 ⟨b2, o2, none⟩ m cap2 ys (by rw [hsz]; exact hy.len) (by
                  intro j u hu
                  exact hy.cellA rfl j u hu) h1 hroom (by rw [hsz]; exact hfit)
                rw [hrr] at hr
                injection hr with hr _
                rw [hv] at hr
                injection hr with hr _
                injection hr with hr
                injection hr with hr _
                exact hbk hr.symm
              · have hrg := run_append_grow (P := P) g.w t ty E i z ht hi hz ⟨b0, 0, none⟩ n cap xs (by rw [hsz]; exact hx.len) (by
                  intro j u hu
                  exact hx.cellA rfl j u hu) ⟨b2, o2, none⟩ m cap2 ys (by rw [hsz]; exact hy.len) (by
                  intro j u hu
                  exact hy.cellA rfl j u hu) (by omega) (by omega) (growslice_fits (by omega) hlim)
                rw [hrg] at hr
                injection hr with _ hr
                show w'.cell? _ = _
                rw [← hr]
                rw [← hc0]
                exact World.cell?_of_block (heap_alloc_old g.w.drew _ hk)
        · exact World.cell?_of_block (hold k hk hkb)
      · refine ⟨hold k hk hnb, ?_⟩
        show (if k = b then (n + m) * sz else g.F k) = g.F k
        split
        · rename_i hkb
          subst hkb
          rcases hFb with hFb | hFb
          · exact absurd hFb hnb
          · exfalso
            -- the new row would be an old block of another's
            have := hold k hk hnb
            rcases hown with ⟨rfl, rfl, rfl⟩ | ⟨b0, cur0, rfl, h2, h3, h4, h5, h6, h7⟩
            · have hrn := run_append_nil (P := P) g.w t ty E i z ht hi hz ⟨b2, o2, none⟩ m cap2 ys (by rw [hsz]; exact hy.len) (by
                intro j u hu
                exact hy.cellA rfl j u hu) (by omega) (by omega) (by have hb := hlim; simp only [Nat.zero_add] at hb; omega)
              rw [hrn] at hr
              injection hr with hr _
              rw [hv] at hr
              injection hr with hr _
              injection hr with hr
              injection hr with hr _
              omega
            · by_cases hroom : n + m ≤ cap
              · have hfit : n * sz + ys.length ≤ cur0.size := by rw [hy.len, h6, ← Nat.add_mul]; exact Nat.mul_le_mul_right _ hroom
                have hrr := run_append_room (P := P) g.w t ty E i ht hi b0 n cap cur0 h3 ⟨b2, o2, none⟩ m cap2 ys (by rw [hsz]; exact hy.len) (by
                  intro j u hu
                  exact hy.cellA rfl j u hu) h1 hroom (by rw [hsz]; exact hfit)
                rw [hrr] at hr
                injection hr with hr _
                rw [hv] at hr
                injection hr with hr _
                injection hr with hr
                injection hr with hr _
                exact hnb (by simp [blkOf, hr])
              · have hrg := run_append_grow (P := P) g.w t ty E i z ht hi hz ⟨b0, 0, none⟩ n cap xs (by rw [hsz]; exact hx.len) (by
                  intro j u hu
                  exact hx.cellA rfl j u hu) ⟨b2, o2, none⟩ m cap2 ys (by rw [hsz]; exact hy.len) (by
                  intro j u hu
                  exact hy.cellA rfl j u hu) (by omega) (by omega) (growslice_fits (by omega) hlim)
                rw [hrg] at hr
                injection hr with hr _
                rw [hv] at hr
                injection hr with hr _
                injection hr with hr
                injection hr with hr _
                omega
        · rfl
theorem o_append {base : Nat} {a a2 : Option Addr} {n m cap cap2 sz : Nat} {t E : TypeId} {x y : Operand} {xs ys : List Value} {i : TypeInfo} {z : Value} (hx : ev e x = some (.slice a n cap)) (hy : ev e y = some (.slice a2 m cap2)) (ht : P.underlying t = some (.slice E)) (hi : P.info? E = some i) (hz : i.zero = some z) (hsz : i.size = sz) (hzs : z.cells.size = sz) (hp : Nat.blt 0 sz = true)
    (hown : Own g base a n cap sz E) (hfx : FSl g a n cap sz xs) (hfy : FSl g a2 m cap2 sz ys) (h1 : ∀ u ∈ ys, u.oneCell' = true) (hlim : (n + m) * i.bytes ≤ 140737488355328) (hlim2 : n + m ≤ 9223372036854775807) (hbase : base ≤ g.w.heap.size) :
    Dos P ⟨d, .call ⟨.builtin .append, [x, y].toArray, [t, t].toArray⟩, ty, pos, af, gd⟩ e g.w (Appd g base a (n + m) sz E (xs ++ ys)) := fun ρ h => by
  obtain ⟨v, w', hr, hA⟩ := run_append (P := P) g (ty := ty) ht hi hz hsz hzs (Nat.le_of_ble_eq_true hp) hown hfx hfy h1 hlim hlim2 hbase
  refine ⟨v, w', ?_, hA⟩
  simp [execOp, resolve, invoke, builtin, h _ _ hx, h _ _ hy, hr]
end mem
end Go.Eng
