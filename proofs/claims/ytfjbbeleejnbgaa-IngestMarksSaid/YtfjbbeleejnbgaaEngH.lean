/- Comparison of structs; parts of slices. No program is named here. -/
import Derived.Test.YtfjbbeleejnbgaaEngG
import Derived.Laws.StructEq
set_option linter.unusedSimpArgs false
set_option linter.unusedVariables false
namespace Go.Eng
/-- How two values of a type compare. -/
def EqT (P : Program) (t : TypeId) (a b : Value) (r : Bool) : Prop := ∀ d w, (Op.equalIn (d + 1) t a b).run P w = .ok r w
section
variable {P : Program}
theorem EqT.int {t : TypeId} {k k' : IntKind} {a b : Int} (h : P.underlying t = some (.int k')) : EqT P t (.int k a) (.int k b) (a == b) := fun d w => run_equalIn_int w d t k k' a b h
theorem EqT.str {t : TypeId} {a b : ByteArray} (h : P.underlying t = some .string) : EqT P t (.string a) (.string b) (a.toList == b.toList) := fun d w => run_equalIn_string w d t a b h
theorem EqT.bool {t : TypeId} {a b : Bool} (h : P.underlying t = some .bool) : EqT P t (.bool a) (.bool b) (a == b) := fun d w => run_equalIn_bool' w d t a b h
/-- How two structs compare, field by field. -/
def EqFs (P : Program) (xs ys : List Value) : List Field → List Bool → Prop
  | [], [] => True
  | f :: fs, r :: rs => ("_" == f.name) = false ∧ One P f.type ∧ (∃ a b, xs[f.offset]? = some a ∧ ys[f.offset]? = some b ∧ EqT P f.type a b r) ∧ EqFs P xs ys fs rs
  | _, _ => False
theorem run_eqFields {d : Nat} {xs ys : List Value} {w : World} : ∀ {fs : List Field} {rs : List Bool}, EqFs P xs ys fs rs → (Op.eqFields (d + 1) xs.toArray ys.toArray fs).run P w = .ok (rs.all id) w
  | [], [], _ => by simp [Op.eqFields]
  | [], _ :: _, h => h.elim
  | _ :: _, [], h => h.elim
  | f :: fs, r :: rs, ⟨h1, h2, ⟨a, b, ha, hb, hr⟩, h3⟩ => by
    have hn : f.name ≠ "_" := fun hh => by rw [hh] at h1; simp at h1
    have pa : (part f.type xs.toArray f.offset).run P w = .ok a w := by simp [part, h2 w, ha]
    have pb : (part f.type ys.toArray f.offset).run P w = .ok b w := by simp [part, h2 w, hb]
    simp only [Op.eqFields, hn, ne_eq, not_false_eq_true, if_true, Sem.run_bind, pa, pb, hr d w, Result.andThen_ok, Sem.run_ite]
    cases r with
    | false => simp
    | true => simp [run_eqFields (w := w) h3]
variable {e : Env} {d : Option Tmp} {ty : TypeId} {pos : String} {af : Array Edge} {gd : Option (Nat × Bool)} {w : World}
theorem run_eqStruct {t : TypeId} {fs : Array Field} {xs ys : List Value} {rs : List Bool} (ht : P.underlying t = some (.struct fs)) (hst : P.stoodInHeld t = false) (hf : EqFs P xs ys fs.toList rs) : (Op.equalIn 10000 t (.agg xs.toArray) (.agg ys.toArray)).run P w = .ok (rs.all id) w := by
  have hfo : P.fieldsOf t = fs := by simp [Program.fieldsOf, ht]
  rw [run_equalIn_struct w 9999 t _ _ (by rw [hfo]; exact ht) hst, hfo]
  exact run_eqFields hf
theorem y_eqs {t t' : TypeId} {x y : Operand} {fs : Array Field} {xs ys : List Value} {rs : List Bool} (hx : ev e x = some (.agg xs.toArray)) (hy : ev e y = some (.agg ys.toArray)) (ht : P.underlying t = some (.struct fs)) (hst : P.stoodInHeld t = false) (hg : P.eqGuardType P.depth t = false) (hf : EqFs P xs ys fs.toList rs) :
    Yld P ⟨d, .binOp .eql t x y t', ty, pos, af, gd⟩ e w (.bool (rs.all id)) := y_cmp hx hy (by
  rw [Sem.run_bind, run_eqGuard_agg w _ _ _ _ _ _ hg, Result.andThen_ok, run_eql_struct, run_eqStruct ht hst hf, Result.andThen_ok])
theorem y_nes {t t' : TypeId} {x y : Operand} {fs : Array Field} {xs ys : List Value} {rs : List Bool} (hx : ev e x = some (.agg xs.toArray)) (hy : ev e y = some (.agg ys.toArray)) (ht : P.underlying t = some (.struct fs)) (hst : P.stoodInHeld t = false) (hg : P.eqGuardType P.depth t = false) (hf : EqFs P xs ys fs.toList rs) :
    Yld P ⟨d, .binOp .neq t x y t', ty, pos, af, gd⟩ e w (.bool (!rs.all id)) := y_cmp hx hy (by
  rw [Sem.run_bind, run_eqGuard_agg w _ _ _ _ _ _ hg, Result.andThen_ok, run_neq_struct, run_eqStruct ht hst hf, Result.andThen_ok])
/-- The head of a slice. -/
theorem y_slice_hi {t E : TypeId} {sz : Nat} {x y : Operand} {k : IntKind} {a : Option Addr} {n cap m : Nat} (ht : P.underlying t = some (.slice E)) (hs : Siz P E sz) (hx : ev e x = some (.slice a n cap)) (hy : ev e y = some (.int k (m : Int))) (hm : m ≤ cap) (ha0 : a.map (·.add 0) = a) :
    Yld P ⟨d, .slice t x none (some y) none, ty, pos, af, gd⟩ e w (.slice a m cap) := by
  have := y_slice (P := P) (e := e) (d := d) (ty := ty) (pos := pos) (af := af) (gd := gd) (w := w) (lo := none) (hi := some y) (l := 0) (m := m) ht hs hx rfl ⟨k, hy⟩ (Nat.zero_le _) hm
  have ha : (if cap = 0 then a else a.map (·.add (0 * sz))) = a := by
    split
    · rfl
    · rw [Nat.zero_mul]; exact ha0
  rw [ha, Nat.sub_zero, Nat.sub_zero] at this
  exact this
end
theorem take_flatMap {α : Type} {f : α → List Value} {sz : Nat} (hf : ∀ x, (f x).length = sz) : ∀ (xs : List α) (m : Nat), (xs.take m).flatMap f = (xs.flatMap f).take (m * sz)
  | [], m => by simp
  | x :: r, 0 => by simp
  | x :: r, m + 1 => by
    simp only [List.take_succ_cons, List.flatMap_cons, take_flatMap hf r m]
    rw [List.take_append, List.take_of_length_le (l := f x) (by rw [hf, Nat.add_mul]; omega), hf, show (m + 1) * sz - sz = m * sz from by rw [Nat.add_mul]; omega]
theorem drop_flatMap {α : Type} {f : α → List Value} {sz : Nat} (hf : ∀ x, (f x).length = sz) : ∀ (xs : List α) (m : Nat), (xs.drop m).flatMap f = (xs.flatMap f).drop (m * sz)
  | [], m => by simp
  | x :: r, 0 => by simp
  | x :: r, m + 1 => by
    simp only [List.drop_succ_cons, List.flatMap_cons, drop_flatMap hf r m]
    rw [List.drop_append, List.drop_eq_nil_of_le (as := f x) (by rw [hf, Nat.add_mul]; omega), hf, List.nil_append, show (m + 1) * sz - sz = m * sz from by rw [Nat.add_mul]; omega]
section
variable {α : Type} {g : Gw} {a : Option Addr} {n cap sz : Nat} {f : α → List Value} {xs : List α}
theorem FSf.add0 (h : FSf g a n cap sz f xs) (hn : 0 < n) : a.map (·.add 0) = a := by
  obtain ⟨b, o, rfl⟩ := h.at_ hn
  simp [Addr.add_lit]
/-- The head of a slice reads as the head of the list. -/
theorem FSf.head (h : FSf g a n cap sz f xs) {m : Nat} (hm : m ≤ n) : FSf g a m cap sz f (xs.take m) := by
  have hc := h.sl.cut (l := 0) (Nat.zero_le m) hm cap (by have := h.sl.nc; omega) h.sl.cm a (fun b o _ hb => by simpa using hb)
  rw [Nat.sub_zero, Nat.zero_mul, List.drop_zero] at hc
  exact FSf.of hc f (xs.take m) h.cells (take_flatMap h.cells xs m) (by rw [List.length_take, h.num]; omega)
/-- What y_slice leaves reads as that part of the list. -/
theorem FSf.part (h : FSf g a n cap sz f xs) {l m : Nat} (hl : l ≤ m) (hm : m ≤ n) : FSf g (if cap = l then a else a.map (·.add (l * sz))) (m - l) (cap - l) sz f ((xs.take m).drop l) := by
  have hnc := h.sl.nc
  have hc := h.sl.cut hl hm (cap - l) (by omega) (by have := h.sl.cm; omega) (if cap = l then a else a.map (·.add (l * sz))) (fun b o hlm hb => by
    rw [if_neg (by omega), hb]; simp [Addr.add_lit])
  exact FSf.of hc f _ h.cells (by rw [drop_flatMap h.cells, take_flatMap h.cells]) (by rw [List.length_drop, List.length_take, h.num]; omega)
end
/-- Bytes that are nothing. -/
theorem bytes_nil {a : ByteArray} (h : (a.toList == ByteArray.toList ⟨#[]⟩) = true) : a.size = 0 := by
  have h := congrArg List.length (eq_of_beq h)
  rw [ByteArray.toList_eq, ByteArray.toList_eq] at h
  have : a.data.size = 0 := by simpa using h
  exact this
section
variable {P : Program} {n : Nat} {ops : Array Oper} {Q : Exit → Act → World → Prop} {o : Oper} {rest : List Oper} {e : Env} {w : World} {d : Nat}
/-- An operation under a guard that was itself left out. -/
theorem l_skipu {j : Nat} {b : Bool} {t : Nat} (hg : o.guard = some (j, b)) (hj : (ops[j]?).bind (·.dst) = some t) (ht : lk e t = some undef) (hd : o.dst = some d) (hn : Nat.blt d n = true)
    (k : wpL P n ops Q rest ((d, undef) :: e) w) : wpL P n ops Q (o :: rest) e w := by
  intro a ha
  have hy : yielded ops a.tmps j = none := by
    have h1 := ha.get t _ ht
    simp only [yielded, hj, Option.bind_some]
    rw [Array.getD_eq_getD_getElem?] at h1
    cases hx : a.tmps[t]? with
    | none => rfl
    | some u => rw [hx] at h1; simp at h1; subst h1; rfl
  have hw : Region.wanted o (yielded ops a.tmps) = false := by simp [Region.wanted, hg, hy]
  unfold wpList
  rw [if_neg (by simp [hw]), hd]
  exact k _ (ha.put (Nat.lt_of_lt_of_le (Nat.lt_succ_self d) (Nat.le_of_ble_eq_true hn)) undef)
end
section
variable {P : Program} {e : Env} {g : Gw} {d : Option Tmp} {ty : TypeId} {pos : String} {af : Array Edge} {gd : Option (Nat × Bool)} {t t' : TypeId} {x y : Operand}
/-- A shift to the right of a number that is not negative: the bounds alone are kept. -/
theorem o_shr {k k' : IntKind} {i j : Int} (hx : ev e x = some (.int k i)) (hy : ev e y = some (.int k' j)) (hi : 0 ≤ i) (hj : 0 ≤ j) :
    Dos P ⟨d, .binOp .shr t x y t', ty, pos, af, gd⟩ e g.w (fun v w' => ∃ r : Int, v = .int k r ∧ 0 ≤ r ∧ r ≤ i ∧ w' = g.w) := fun ρ h => by
  refine ⟨.int k (i.fdiv (2 ^ (min j.toNat k.bits))), g.w, ?_, _, rfl, ?_, ?_, rfl⟩
  · simp [execOp, h _ _ hx, h _ _ hy, eqGuard, binOp, Op.shift, Int.not_lt.2 hj]
  · exact Int.fdiv_nonneg hi (Int.le_of_lt (Int.pow_pos (by omega)))
  · have hp : (0 : Int) < 2 ^ (min j.toNat k.bits) := Int.pow_pos (by omega)
    rw [Int.fdiv_eq_ediv_of_nonneg _ (Int.le_of_lt hp)]
    exact Int.ediv_le_self _ hi
/-- A quotient of a number that is not negative: the bounds alone are kept. -/
theorem o_quo {i j : Int} (hx : ev e x = some (.int .i64 i)) (hy : ev e y = some (.int .i64 j)) (hi : 0 ≤ i) (hi1 : i ≤ 9223372036854775807) (hj : 0 < j) :
    Dos P ⟨d, .binOp .quo t x y t', ty, pos, af, gd⟩ e g.w (fun v w' => ∃ r : Int, v = .int .i64 r ∧ 0 ≤ r ∧ r * j ≤ i ∧ r ≤ i ∧ w' = g.w) := fun ρ h => by
  have hq : i.tdiv j = i / j := Int.tdiv_eq_ediv_of_nonneg hi
  have h0 : 0 ≤ i / j := Int.ediv_nonneg hi (Int.le_of_lt hj)
  have h1 : i / j * j ≤ i := Int.ediv_mul_le _ (by omega)
  have h2 : i / j ≤ i := Int.ediv_le_self _ hi
  refine ⟨.int .i64 (i / j), g.w, ?_, _, rfl, h0, h1, h2, rfl⟩
  have := y_quo (P := P) (w := g.w) (d := d) (ty := ty) (pos := pos) (af := af) (gd := gd) (t := t) (t' := t') hx hy (by omega) ρ h
  rw [hq, wrap_in (by omega) (by omega)] at this
  exact this
end
theorem mul_le_255 {z n : Int} (h0 : 0 ≤ z) (h1 : z ≤ 255) (hn : 0 ≤ n) : 0 ≤ z * n ∧ z * n ≤ 255 * n := ⟨Int.mul_nonneg h0 hn, Int.mul_le_mul_of_nonneg_right h1 hn⟩
theorem FSf.lt {α : Type} {g : Gw} {a : Option Addr} {n cap sz : Nat} {f : α → List Value} {xs : List α} (h : FSf g a n cap sz f xs) (hn : 0 < n) (hs : 0 < sz) : ∀ b, blkOf a b → b < g.w.heap.size := by
  intro b hb
  obtain ⟨b', o', rfl, h1, _⟩ := h.sl.pos hn
  simp [blkOf] at hb
  subst hb
  rcases Nat.lt_or_ge b' g.w.heap.size with hh | hh
  · exact hh
  · have := g.ok b' hh
    have := Nat.mul_pos hn hs
    omega
theorem blkOf_part {a : Option Addr} {c : Prop} [Decidable c] {k b : Nat} (h : blkOf (if c then a else a.map (·.add k)) b) : blkOf a b := by
  split at h
  · exact h
  · cases a with
    | none => simp [blkOf] at h
    | some ad =>
      simp only [blkOf, Option.map_some] at h ⊢
      rw [← h]
      unfold Addr.add
      split <;> rfl
end Go.Eng
