/- Laws, on plain data, about functions that the statement reaches. -/
import Derived.Test.YtlpedofpnbggbaaDoorL3
set_option linter.unusedSimpArgs false
set_option linter.unusedVariables false
set_option linter.unnecessarySimpa false
set_option maxRecDepth 100000
namespace Go.Proofs.YtlpedofpnbggbaaDoor
open Go.Eng Go.Pi
open Option (bind_some)
theorem bL_irr : ∀ a : Str, Op.bytesLess a a = false
  | [] => rfl
  | x :: a => by simp [-bind_some, Op.bytesLess, bL_irr a]
theorem bL_tr : ∀ {a b c : Str}, Op.bytesLess a b = true → Op.bytesLess b c = true → Op.bytesLess a c = true
  | _, [], _, h, _ => by cases ‹Str› <;> simp [-bind_some, Op.bytesLess] at h
  | _, _ :: _, [], _, h => by simp [-bind_some, Op.bytesLess] at h
  | [], _ :: _, _ :: _, _, _ => rfl
  | x :: a, y :: b, z :: c, h, k => by
    simp only [Op.bytesLess, Bool.or_eq_true, decide_eq_true_eq, Bool.and_eq_true, beq_iff_eq] at h k ⊢
    rcases h with h | ⟨rfl, h⟩
    · rcases k with k | ⟨rfl, k⟩
      · exact .inl (UInt8.lt_trans h k)
      · exact .inl h
    · rcases k with k | ⟨rfl, k⟩
      · exact .inl k
      · exact .inr ⟨rfl, bL_tr h k⟩
theorem bL_tot : ∀ {a b : Str}, Op.bytesLess a b = false → a ≠ b → Op.bytesLess b a = true
  | [], [], _, h => absurd rfl h
  | [], _ :: _, h, _ => by simp [-bind_some, Op.bytesLess] at h
  | _ :: _, [], _, _ => rfl
  | x :: a, y :: b, h, k => by
    simp only [Op.bytesLess, Bool.or_eq_false_iff, decide_eq_false_iff_not, Bool.and_eq_false_iff, beq_eq_false_iff_ne] at h
    simp only [Op.bytesLess, Bool.or_eq_true, decide_eq_true_eq, Bool.and_eq_true, beq_iff_eq]
    by_cases hxy : x = y
    · subst hxy
      refine .inr ⟨rfl, bL_tot (h.2.resolve_left fun hh => hh rfl) fun hh => k (by rw [hh])⟩
    · left
      have h1 := mt UInt8.lt_iff_toNat_lt.2 h.1
      have h2 : x.toNat ≠ y.toNat := fun hh => hxy (UInt8.toNat_inj.1 hh)
      exact UInt8.lt_iff_toNat_lt.2 (by omega)
def gr : List Ev → List Ev → Bool
  | [], _ => true
  | _ :: _, [] => false
  | x :: a, y :: b => if sameE x y = true then gr a b else gr (x :: a) b
def sm (f : Tal → Int) : List Tal → Int
  | [] => 0
  | t :: r => f t + sm f r
theorem itr_okv (i : It) : (D.agg (itr i)).okv = true := by
  have h1 := slof_one i.e.hld
  have h2 := slof_one i.e.hfd
  have h3 : (D.agg (itr i)) = .agg [.str i.r, .int .i64 i.e.a0, .int .i64 i.e.a1, .int .i64 i.e.a2, .int .i64 i.e.a3, i.e.ld, .int .i64 i.e.a5, .int .i64 i.e.a6, .str i.e.s7, .str i.e.s8, i.e.fd] := rfl
  rw [h3]
  generalize i.e.ld = a at h1
  generalize i.e.fd = b at h2
  cases a <;> first | (cases b <;> first | rfl | (simp [-bind_some, D.one] at h2)) | (simp [-bind_some, D.one] at h1)
structure SOrd {α : Type} (c : α → α → Int) (S Pre : α → α → Prop) : Prop where
  tr : ∀ x y z, S x y → S y z → S x z
  lt : ∀ x y, Pre x y → c y x < 0 → S y x
  ge : ∀ x y, Pre x y → ¬ c y x < 0 → S x y
theorem pw_ins {α : Type} {c : α → α → Int} {S Pre : α → α → Prop} (o : SOrd c S Pre) {A1 A2 : List α} {x : α} (hA : (A1 ++ A2).Pairwise S) (hp : ∀ y ∈ A1 ++ A2, Pre y x)
    (h2 : A2 = [] ∨ ∃ y r, A2 = y :: r ∧ c x y < 0) (h1 : A1 = [] ∨ ∃ y r, A1 = r ++ [y] ∧ ¬ c x y < 0) : (A1 ++ x :: A2).Pairwise S := by
  rw [List.pairwise_append] at hA ⊢
  obtain ⟨p1, p2, p3⟩ := hA
  have q1 : ∀ a ∈ A1, S a x := by
    rcases h1 with rfl | ⟨y, r, rfl, hy⟩
    · intro a ha; cases ha
    · intro a ha
      have hyx : S y x := o.ge y x (hp y (by simp)) hy
      rw [List.pairwise_append] at p1
      rcases List.mem_append.1 ha with ha | ha
      · exact o.tr _ _ _ (p1.2.2 a ha y (by simp)) hyx
      · simp at ha; subst ha; exact hyx
  have q2 : ∀ b ∈ A2, S x b := by
    rcases h2 with rfl | ⟨y, r, rfl, hy⟩
    · intro a ha; cases ha
    · intro b hb
      have hxy : S x y := o.lt y x (hp y (by simp)) hy
      rw [List.pairwise_cons] at p2
      rcases List.mem_cons.1 hb with rfl | hb
      · exact hxy
      · exact o.tr _ _ _ hxy (p2.1 b hb)
  refine ⟨p1, List.pairwise_cons.2 ⟨q2, p2⟩, fun a ha b hb => ?_⟩
  rcases List.mem_cons.1 hb with rfl | hb
  · exact q1 a ha
  · exact p3 a ha b hb
theorem dn_spec {α : Type} (c : α → α → Int) (P : List α) (x : α) : ∀ (R : List α) (Q : List α), ∃ A1 A2, R.reverse = A1 ++ A2 ∧ dn c P.length (P.length + R.length) (P ++ R.reverse ++ x :: Q) = P ++ A1 ++ x :: A2 ++ Q ∧
    (A2 = [] ∨ ∃ y r, A2 = y :: r ∧ c x y < 0) ∧ (A1 = [] ∨ ∃ y r, A1 = r ++ [y] ∧ ¬ c x y < 0)
  | [], Q => ⟨[], [], rfl, by
      cases P with
      | nil => simp [-bind_some, dn]
      | cons p P =>
        simp only [List.length_cons, List.length_nil, Nat.add_zero, List.reverse_nil, List.append_nil]
        unfold dn
        split
        · rw [if_neg (by omega)]; simp [-bind_some]
        · simp [-bind_some], .inl rfl, .inl rfl⟩
  | y :: R, Q => by
    have g1 : (P ++ (y :: R).reverse ++ x :: Q)[P.length + R.length + 1]? = some x := by
      rw [List.getElem?_append_right (by simp; omega)]
      simp [-bind_some]
      try (have : P.length + R.length + 1 - (P.length + (R.length + 1)) = 0 := by omega
           rw [this]; rfl)
    have g0 : (P ++ (y :: R).reverse ++ x :: Q)[P.length + R.length]? = some y := by
      rw [List.getElem?_append_left (by simp), List.getElem?_append_right (by omega)]
      simp [-bind_some]
    rw [List.length_cons, ← Nat.add_assoc]
    unfold dn
    rw [g1, g0]
    simp only
    by_cases hc : c x y < 0
    · rw [if_pos ⟨by omega, hc⟩]
      have hs : ((P ++ (y :: R).reverse ++ x :: Q).set (P.length + R.length + 1) y).set (P.length + R.length) x = P ++ R.reverse ++ x :: (y :: Q) := by
        have e1 : P ++ (y :: R).reverse ++ x :: Q = (P ++ R.reverse) ++ y :: x :: Q := by simp
        rw [e1]
        have l1 : (P ++ R.reverse).length = P.length + R.length := by simp
        rw [List.set_append_right _ _ (by omega), List.set_append_right _ _ (by omega), l1]
        have : P.length + R.length + 1 - (P.length + R.length) = 1 := by omega
        rw [this, Nat.sub_self]
        rfl
      rw [hs]
      obtain ⟨A1, A2, h1, h2, h3, h4⟩ := dn_spec c P x R (y :: Q)
      refine ⟨A1, A2 ++ [y], by simp [-bind_some, h1], by rw [h2]; simp [-bind_some], ?_, h4⟩
      rcases h3 with rfl | ⟨u, r, rfl, hu⟩
      · exact .inr ⟨y, [], rfl, hc⟩
      · exact .inr ⟨u, r ++ [y], rfl, hu⟩
    · rw [if_neg (fun hh => hc hh.2)]
      exact ⟨(y :: R).reverse, [], by simp, by simp, .inl rfl, .inr ⟨y, R.reverse, by simp, hc⟩⟩
theorem dn_ins {α : Type} (c : α → α → Int) (P A Q : List α) (x : α) : ∃ A1 A2, A = A1 ++ A2 ∧ dn c P.length (P.length + A.length) (P ++ A ++ x :: Q) = P ++ A1 ++ x :: A2 ++ Q ∧
    (A2 = [] ∨ ∃ y r, A2 = y :: r ∧ c x y < 0) ∧ (A1 = [] ∨ ∃ y r, A1 = r ++ [y] ∧ ¬ c x y < 0) := by
  have := dn_spec c P x A.reverse Q
  simpa using this
theorem isr_ok {α : Type} {c : α → α → Int} {S Pre : α → α → Prop} (o : SOrd c S Pre) (P Q : List α) : ∀ (B A : List α), A.Pairwise S → (∀ x ∈ A, ∀ y ∈ B, Pre x y) → B.Pairwise Pre →
    ∃ C, isr c P.length (P.length + A.length) B.length (P ++ A ++ B ++ Q) = P ++ C ++ Q ∧ C.Perm (A ++ B) ∧ C.Pairwise S
  | [], A, hA, _, _ => ⟨A, by simp [-bind_some, isr], by simp, hA⟩
  | x :: B, A, hA, hp, hB => by
    rw [List.pairwise_cons] at hB
    obtain ⟨A1, A2, rfl, h2, h3, h4⟩ := dn_ins c P A (B ++ Q) x
    have hA' : (A1 ++ x :: A2).Pairwise S := pw_ins o hA (fun y hy => hp y hy x (by simp)) h3 h4
    have e1 : P ++ (A1 ++ A2) ++ x :: B ++ Q = P ++ (A1 ++ A2) ++ x :: (B ++ Q) := by simp
    have hpm : (A1 ++ x :: A2).Perm (x :: (A1 ++ A2)) := List.perm_middle
    obtain ⟨C, q1, q2, q3⟩ := isr_ok o P Q B (A1 ++ x :: A2) hA' (fun u hu v hv => by
      rcases List.mem_cons.1 (hpm.mem_iff.1 hu) with rfl | hu
      · exact hB.1 v hv
      · exact hp u hu v (by simp [-bind_some, hv])) hB.2
    refine ⟨C, ?_, q2.trans ?_, q3⟩
    · rw [List.length_cons]
      unfold isr
      rw [e1, h2, ← q1]
      have e2 : P.length + (A1 ++ A2).length + 1 = P.length + (A1 ++ x :: A2).length := by simp; omega
      have e3 : P ++ A1 ++ x :: A2 ++ (B ++ Q) = P ++ (A1 ++ x :: A2) ++ B ++ Q := by simp
      rw [e2, e3]
    · have : ((A1 ++ x :: A2) ++ B).Perm ((x :: (A1 ++ A2)) ++ B) := hpm.append_right B
      refine this.trans ?_
      simpa using (List.perm_middle (l₁ := A1 ++ A2) (l₂ := B) (a := x)).symm
inductive Blk {α : Type} (S Pre : α → α → Prop) (k : Nat) : List α → Prop
  | last (A : List α) (hl : A.length ≤ k) (hs : A.Pairwise S) : Blk S Pre k A
  | cons (A Y : List α) (hl : A.length = k) (hs : A.Pairwise S) (hp : ∀ x ∈ A, ∀ y ∈ Y, Pre x y) (hY : Blk S Pre k Y) : Blk S Pre k (A ++ Y)
theorem Blk.all {α : Type} {S Pre : α → α → Prop} {k : Nat} {l : List α} (h : Blk S Pre k l) (hl : l.length ≤ k) : l.Pairwise S := by
  cases h with
  | last _ _ hs => exact hs
  | cons A Y hA hs hp hY =>
    have : Y = [] := by
      simp at hl
      exact List.length_eq_zero_iff.1 (by omega)
    subst this
    simpa using hs
theorem Blk.fst {α : Type} {S Pre : α → α → Prop} {k : Nat} {l : List α} (h : Blk S Pre k l) (hl : k ≤ l.length) : ∃ A Y, l = A ++ Y ∧ A.length = k ∧ A.Pairwise S ∧ (∀ x ∈ A, ∀ y ∈ Y, Pre x y) ∧ Blk S Pre k Y := by
  cases h with
  | last _ h1 hs => exact ⟨l, [], by simp, by omega, hs, by simp, .last [] (by simp) List.Pairwise.nil⟩
  | cons A Y hA hs hp hY => exact ⟨A, Y, rfl, hA, hs, hp, hY⟩
def CtxB {α : Type} (S Pre : α → α → Prop) (k : Nat) (X Y : List α) : Prop := ∀ Z : List α, Z.Perm Y → Blk S Pre k Z → Blk S Pre k (X ++ Z)
theorem CtxB.nil {α : Type} {S Pre : α → α → Prop} {k : Nat} {Y : List α} : CtxB S Pre k [] Y := fun Z _ h => h
theorem CtxB.step {α : Type} {S Pre : α → α → Prop} {k : Nat} {X A Y C : List α} (h : CtxB S Pre k X (A ++ Y)) (hC : C.Perm A) (hl : C.length = k) (hs : C.Pairwise S) (hp : ∀ x ∈ A, ∀ y ∈ Y, Pre x y) : CtxB S Pre k (X ++ C) Y := fun Z hZ hb => by
  rw [List.append_assoc]
  exact h (C ++ Z) (hC.append hZ) (.cons C Z hl hs (fun x hx y hy => hp x (hC.mem_iff.1 hx) y (hZ.mem_iff.1 hy)) hb)
theorem CtxB.done {α : Type} {S Pre : α → α → Prop} {k : Nat} {X Y Z : List α} (h : CtxB S Pre k X Y) (hZ : Z.Perm Y) (hl : Z.length ≤ k) (hs : Z.Pairwise S) : Blk S Pre k (X ++ Z) := h Z hZ (.last Z hl hs)
theorem halves {α : Type} {c : α → α → Int} {S Pre : α → α → Prop} (o : SOrd c S Pre) {A1 A2 B1 B2 C1 C2 : List α} (hA : (A1 ++ A2).Pairwise S) (hB : (B1 ++ B2).Pairwise S) (hp : ∀ x ∈ A1 ++ A2, ∀ y ∈ B1 ++ B2, Pre x y)
    (h1 : A1 = [] ∨ B2 = [] ∨ ∃ x y r s, A1 = r ++ [x] ∧ B2 = y :: s ∧ ¬ c y x < 0) (h2 : A2 = [] ∨ B1 = [] ∨ ∃ x y r s, B1 = r ++ [y] ∧ A2 = x :: s ∧ c y x < 0)
    (p1 : C1.Perm (A1 ++ B1)) (s1 : C1.Pairwise S) (p2 : C2.Perm (A2 ++ B2)) (s2 : C2.Pairwise S) : (C1 ++ C2).Perm ((A1 ++ A2) ++ (B1 ++ B2)) ∧ (C1 ++ C2).Pairwise S := by
  rw [List.pairwise_append] at hA hB
  have x1 : ∀ x ∈ A1, ∀ y ∈ B2, S x y := by
    intro x hx y hy
    rcases h1 with rfl | rfl | ⟨u, v, r, s, rfl, rfl, huv⟩
    · cases hx
    · cases hy
    · have huv : S u v := o.ge u v (hp u (by simp) v (by simp)) huv
      have q1 : x = u ∨ S x u := by
        have := hA.1
        rw [List.pairwise_append] at this
        rcases List.mem_append.1 hx with hx | hx
        · exact .inr (this.2.2 x hx u (by simp))
        · simp at hx; exact .inl hx
      have q2 : y = v ∨ S v y := by
        have := hB.2.1
        rw [List.pairwise_cons] at this
        rcases List.mem_cons.1 hy with rfl | hy
        · exact .inl rfl
        · exact .inr (this.1 y hy)
      rcases q1 with rfl | q1 <;> rcases q2 with rfl | q2
      · exact huv
      · exact o.tr _ _ _ huv q2
      · exact o.tr _ _ _ q1 huv
      · exact o.tr _ _ _ (o.tr _ _ _ q1 huv) q2
  have x2 : ∀ y ∈ B1, ∀ x ∈ A2, S y x := by
    intro y hy x hx
    rcases h2 with rfl | rfl | ⟨u, v, r, s, rfl, rfl, huv⟩
    · cases hx
    · cases hy
    · have huv : S v u := o.lt u v (hp u (by simp) v (by simp)) huv
      have q1 : y = v ∨ S y v := by
        have := hB.1
        rw [List.pairwise_append] at this
        rcases List.mem_append.1 hy with hy | hy
        · exact .inr (this.2.2 y hy v (by simp))
        · simp at hy; exact .inl hy
      have q2 : x = u ∨ S u x := by
        have := hA.2.1
        rw [List.pairwise_cons] at this
        rcases List.mem_cons.1 hx with rfl | hx
        · exact .inl rfl
        · exact .inr (this.1 x hx)
      rcases q1 with rfl | q1 <;> rcases q2 with rfl | q2
      · exact huv
      · exact o.tr _ _ _ huv q2
      · exact o.tr _ _ _ q1 huv
      · exact o.tr _ _ _ (o.tr _ _ _ q1 huv) q2
  refine ⟨?_, List.pairwise_append.2 ⟨s1, s2, fun a ha b hb => ?_⟩⟩
  · refine (p1.append p2).trans ?_
    have : (B1 ++ (A2 ++ B2)).Perm (A2 ++ (B1 ++ B2)) := by
      rw [← List.append_assoc, ← List.append_assoc]
      exact List.perm_append_comm.append_right B2
    simpa using this.append_left A1
  · rcases List.mem_append.1 (p1.mem_iff.1 ha) with ha | ha <;> rcases List.mem_append.1 (p2.mem_iff.1 hb) with hb | hb
    · exact hA.2.2 a ha b hb
    · exact x1 a ha b hb
    · exact x2 a ha b hb
    · exact hB.2.2 a ha b hb
def U8 (z : Int) : Prop := 0 ≤ z ∧ z < 256
theorem U8.u32 {z : Int} (h : U8 z) : U32 z := ⟨h.1, by have := h.2; omega⟩
def num (l : List Int) : Int := l.foldl (fun v b => v * 256 + b) 0
theorem wrap_u8m (n : Int) : IntKind.wrap .u8 n = n % 256 := by
  unfold IntKind.wrap
  simp [-bind_some, IntKind.signed, IntKind.bits, IntKind.min, IntKind.max]
def rdN : Nat → List Int → List (List Int) × Nat
  | 0, _ => ([], 0)
  | k + 1, r => if r.length < 8 ∨ (num (r.take 4)).toNat < 1 ∨ 8388608 < (num (r.take 4)).toNat ∨ r.length - 8 < (num (r.take 4)).toNat ∨ num ((r.drop 4).take 4) ≠ crc (r.take 4 ++ (r.drop 8).take (num (r.take 4)).toNat) then ([], 0)
    else ((r.drop 8).take (num (r.take 4)).toNat :: (rdN k (r.drop (8 + (num (r.take 4)).toNat))).1, 8 + (num (r.take 4)).toNat + (rdN k (r.drop (8 + (num (r.take 4)).toNat))).2)
def rd (r : List Int) : List (List Int) × Nat := rdN r.length r
def putb : Nat → Int → List Int
  | 0, _ => []
  | n + 1, v => IntKind.wrap .u8 (v.fdiv (2 ^ (8 * n))) :: putb n v
theorem putb_len : ∀ (n : Nat) (v : Int), (putb n v).length = n
  | 0, v => rfl
  | n + 1, v => by simp [-bind_some, putb, putb_len n v]
theorem putb_u8 : ∀ (n : Nat) (v : Int), ∀ z ∈ putb n v, U8 z
  | 0, v, z, hz => by cases hz
  | n + 1, v, z, hz => by
    rcases List.mem_cons.1 hz with rfl | hz
    · rw [wrap_u8m]; unfold U8; omega
    · exact putb_u8 n v z hz
def sby (s : Str) : List Int := s.map fun c => (c.toNat : Int)
theorem sby_len (s : Str) : (sby s).length = s.length := by simp [-bind_some, sby]
theorem sby_u8 (s : Str) : ∀ z ∈ sby s, U8 z := by
  intro z hz
  obtain ⟨c, _, rfl⟩ := List.mem_map.1 hz
  have := c.toNat_lt
  unfold U8
  omega
theorem sby_rows (s : Str) : bytesRows s = (sby s).map byr := by simp [-bind_some, bytesRows, sby, byr, List.map_map, Function.comp_def]
structure Bw (n0 : Nat) (h : Hp) (d : D) (h' : Hp) (l : List Int) (d' : D) : Prop where
  ow : Own h' n0 ty5 1 (l.map byr) d'
  len : h.length ≤ h'.length
  old : ∀ q, q < h.length → ¬ d.inOb q → h'[q]? = h[q]?
  new : ∀ q, d'.inOb q → d.inOb q ∨ h.length ≤ q
theorem Bw.trans {n0 : Nat} {h h1 h2 : Hp} {d d1 d2 : D} {l1 l2 : List Int} (a : Bw n0 h d h1 l1 d1) (b : Bw n0 h1 d1 h2 l2 d2) : Bw n0 h d h2 l2 d2 :=
  ⟨b.ow, Nat.le_trans a.len b.len, fun q hq hd => (b.old q (Nat.lt_of_lt_of_le hq a.len) fun hx => by rcases a.new q hx with h1 | h1; exact hd h1; omega).trans (a.old q hq hd),
    fun q hq => by rcases b.new q hq with h1 | h1; exact a.new q h1; exact .inr (Nat.le_trans a.len h1)⟩
theorem Bw.refl {n0 : Nat} {h : Hp} {d : D} {l : List Int} (ow : Own h n0 ty5 1 (l.map byr) d) : Bw n0 h d h l d := ⟨ow, Nat.le_refl _, fun _ _ _ => rfl, fun _ hq => .inl hq⟩
theorem Bw.low {n0 : Nat} {h h' : Hp} {d d' : D} {l l0 : List Int} (b : Bw n0 h d h' l d') (ow : Own h n0 ty5 1 (l0.map byr) d) (hn : n0 ≤ h.length) : ∀ q, q < n0 → h'[q]? = h[q]? := fun q hq => b.old q (by omega) fun hx => by have := (ow.lt hx).1; omega
theorem app_b {n0 : Nat} {h : Hp} {d y : D} {l m : List Int} (hn : n0 ≤ h.length) (ow : Own h n0 ty5 1 (l.map byr) d) (hy : dRowsOf h 1 y = some (m.map byr)) (hl : l.length + m.length ≤ 1000000000) : ∃ d' h', dAppend tab h ty22 ty22 d y = some (d', h') ∧ Bw n0 h d h' (l ++ m) d' := by
  have key := @wap22 h n0 hn (l.map byr) d y ow _ hy (by simp; omega) _ (fun r => some r) (fun r => Bw n0 h d r.2 (l ++ m) r.1) (fun x' h' a b _ c e => .some ⟨by rw [List.map_append]; exact a, b, c, e⟩)
  obtain ⟨⟨x', g⟩, e1, B⟩ := key
  refine ⟨x', g, ?_, B⟩
  cases hq : dAppend tab h ty22 ty22 d y with
  | none => rw [hq] at e1; cases e1
  | some r => rw [hq] at e1; exact e1
theorem aps22 (h : Hp) (x : D) (s : Str) : dAppend tab h ty22 ty9 x (.str s) = dAppend tab h ty22 ty22 x (.sl 1 true (bytesRows s)) := id rfl
theorem app_s {n0 : Nat} {h : Hp} {d : D} {l : List Int} (hn : n0 ≤ h.length) (ow : Own h n0 ty5 1 (l.map byr) d) (s : Str) (hl : l.length + s.length ≤ 1000000000) : ∃ d' h', dAppend tab h ty22 ty9 d (.str s) = some (d', h') ∧ Bw n0 h d h' (l ++ sby s) d' := by
  rw [aps22, sby_rows]
  exact app_b hn ow (rowsOf_sl _ _ _ _) (by rw [sby_len]; exact hl)
theorem l1116 (v : Int) (n0 : Nat) : ∀ (k : Nat), k ≤ 8 → ∀ (h : Hp) (l : List Int) (d a : D), n0 ≤ h.length → Own h n0 ty5 1 (l.map byr) d → l.length + k ≤ 1000000000 → ∃ d' h' b, loopW (F1116_L0 (.int .u64 v)) [d, .int .i64 ((k : Int) - 1), a] h = some (.ext 0, [d', b, .bool false], h') ∧ Bw n0 h d h' (l ++ putb k v) d' := by
  intro k
  induction k with
  | zero =>
    intro _ h l d a hn ow hr
    rw [loopW_eq]
    refine ⟨d, h, _, by simp [-bind_some, F1116_L0]; rfl, ?_⟩
    simpa [-bind_some, putb] using Bw.refl ow
  | succ k ih =>
    intro hk h l d a hn ow hr
    have hg : (0 : Int) ≤ ((k + 1 : Nat) : Int) - 1 := by omega
    have hw1 : IntKind.wrap .i64 (8 * (((k + 1 : Nat) : Int) - 1)) = 8 * (k : Int) := by rw [wrap_i64 (by omega) (by omega)]; omega
    have hw2 : IntKind.wrap .i64 (((k + 1 : Nat) : Int) - 1 - 1) = (k : Int) - 1 := by rw [wrap_i64 (by omega) (by omega)]; omega
    have hw3 : IntKind.wrap .u64 (8 * (k : Int)) = 8 * (k : Int) := wrap_u64 (by omega) (by omega)
    have h8 : ¬ (8 * (k : Int)) < 0 := by omega
    have hmn : min (8 * (k : Int)).toNat IntKind.u64.bits = 8 * k := by
      have : IntKind.u64.bits = 64 := rfl
      rw [this]; omega
    obtain ⟨x', g, e1, B1⟩ := app_b (y := .sl 1 true [byr (IntKind.wrap .u8 (v.fdiv (2 ^ (8 * k))))]) (m := [IntKind.wrap .u8 (v.fdiv (2 ^ (8 * k)))]) hn ow (rowsOf_sl _ _ _ _) (by simp; omega)
    obtain ⟨d', h', b, e2, B2⟩ := ih (by omega) g _ x' (.bool true) (Nat.le_trans hn B1.len) B1.ow (by simp; omega)
    refine ⟨d', h', b, ?_, ?_⟩
    · rw [loopW_eq]
      simp only [F1116_L0, nth_zero, nth_succ, bs, dBin_geq, decide_eq_true hg, dIf_bool, if_true, dBin_mul, hw1, cv3_134, hw3, dBin_shr, h8, if_false, hmn, cv1029_5, bs22_1, show ∀ z, ([[D.int .u8 z]] : List (List D)) = [byr z] from fun _ => rfl, e1, dBin_sub, hw2]
      exact e2
    · have := B1.trans B2
      simpa [-bind_some, putb] using this
theorem s1116 (v : Int) (k : Nat) (hk : k ≤ 8) (n0 : Nat) (h : Hp) (l : List Int) (d : D) (hn : n0 ≤ h.length) (ow : Own h n0 ty5 1 (l.map byr) d) (hr : l.length ≤ 999999000) : ∃ d' h', R fn1116 [d, .int .u64 v, .int .i64 k] h = some (d', h') ∧ Bw n0 h d h' (l ++ putb k v) d' := by
  obtain ⟨d', h', b, e1, B⟩ := l1116 v n0 k hk h l d .any hn ow (by omega)
  refine ⟨d', h', ?_, B⟩
  rw [e1116]
  have hw : IntKind.wrap .i64 ((k : Int) - 1) = (k : Int) - 1 := by rw [wrap_i64 (by omega) (by omega)]
  simp only [F1116, bs, dBin_sub, hw, Option.bind_assoc, e1, unblk_self, toEnd_nrm, nth_zero, mkRes_one]
def pI (n : Int) : List Int := putb 8 (IntKind.wrap .u64 n)
def pN (n : Nat) : List Int := putb 4 (IntKind.wrap .u64 n)
def pS (s : Str) : List Int := pN s.length ++ sby s
theorem pI_len (n : Int) : (pI n).length = 8 := putb_len _ _
theorem pN_len (n : Nat) : (pN n).length = 4 := putb_len _ _
theorem pS_len (s : Str) : (pS s).length = 4 + s.length := by simp [-bind_some, pS, pN_len, sby_len]
theorem s1119 (n : Int) (n0 : Nat) (h : Hp) (l : List Int) (d : D) (hn : n0 ≤ h.length) (ow : Own h n0 ty5 1 (l.map byr) d) (hr : l.length ≤ 999999000) : ∃ d' h', R fn1119 [d, .int .i64 n] h = some (d', h') ∧ Bw n0 h d h' (l ++ pI n) d' := by
  obtain ⟨d', h', e1, B⟩ := s1116 (IntKind.wrap .u64 n) 8 (by omega) n0 h l d hn ow hr
  refine ⟨d', h', ?_, B⟩
  rw [e1119]
  have e1 : R fn1116 [d, .int .u64 (IntKind.wrap .u64 n), .int .i64 8] h = some (d', h') := e1
  simp only [F1119, bs, cv3_1029, e1, mkRes_one]
theorem s1118 (s : Str) (n0 : Nat) (h : Hp) (l : List Int) (d : D) (hn : n0 ≤ h.length) (ow : Own h n0 ty5 1 (l.map byr) d) (hr : l.length + s.length ≤ 999998000) : ∃ d' h', R fn1118 [d, .str s] h = some (d', h') ∧ Bw n0 h d h' (l ++ pS s) d' := by
  obtain ⟨d1, h1, e1, B1⟩ := s1116 (IntKind.wrap .u64 s.length) 4 (by omega) n0 h l d hn ow (by omega)
  obtain ⟨d2, h2, e2, B2⟩ := app_s (Nat.le_trans hn B1.len) B1.ow s (by simp [-bind_some, putb_len]; omega)
  have B := B1.trans B2
  refine ⟨d2, h2, ?_, by simpa [-bind_some, pS, pN] using B⟩
  rw [e1118]
  have e1 : R fn1116 [d, .int .u64 (IntKind.wrap .u64 s.length), .int .i64 4] h = some (d1, h1) := e1
  simp only [F1118, bs, len9, cv3_1029, e1, e2, mkRes_one]
theorem putS_wp {n0 : Nat} {h0 h : Hp} {d0 d : D} {l : List Int} (B : Bw n0 h0 d0 h l d) (hn : n0 ≤ h.length) (s : Str) (hr : l.length + s.length ≤ 999998000) {β : Type} {f : D × Hp → Option β} {Q : β → Prop}
    (k : ∀ d' h', Bw n0 h0 d0 h' (l ++ pS s) d' → n0 ≤ h'.length → Wp (f (d', h')) Q) : Wp ((R fn1118 [d, .str s] h).bind f) Q := by
  obtain ⟨d', h', e, B1⟩ := s1118 s n0 h l d hn B.ow hr
  exact Wp.step e (k d' h' (B.trans B1) (Nat.le_trans hn B1.len))
theorem putI_wp {n0 : Nat} {h0 h : Hp} {d0 d : D} {l : List Int} (B : Bw n0 h0 d0 h l d) (hn : n0 ≤ h.length) (n : Int) (hr : l.length ≤ 999999000) {β : Type} {f : D × Hp → Option β} {Q : β → Prop}
    (k : ∀ d' h', Bw n0 h0 d0 h' (l ++ pI n) d' → n0 ≤ h'.length → Wp (f (d', h')) Q) : Wp ((R fn1119 [d, .int .i64 n] h).bind f) Q := by
  obtain ⟨d', h', e, B1⟩ := s1119 n n0 h l d hn B.ow hr
  exact Wp.step e (k d' h' (B.trans B1) (Nat.le_trans hn B1.len))
theorem putN_wp {n0 : Nat} {h0 h : Hp} {d0 d : D} {l : List Int} (B : Bw n0 h0 d0 h l d) (hn : n0 ≤ h.length) (v : Int) (hr : l.length ≤ 999999000) {β : Type} {f : D × Hp → Option β} {Q : β → Prop}
    (k : ∀ d' h', Bw n0 h0 d0 h' (l ++ putb 4 v) d' → n0 ≤ h'.length → Wp (f (d', h')) Q) : Wp ((R fn1116 [d, .int .u64 v, .int .i64 4] h).bind f) Q := by
  obtain ⟨d', h', e, B1⟩ := s1116 v 4 (by omega) n0 h l d hn B.ow hr
  exact Wp.step e (k d' h' (B.trans B1) (Nat.le_trans hn B1.len))
def lnB (l : Lin) : List Int := pI l.off ++ pI l.len ++ pS l.txt
def fdB (f : Str × Str) : List Int := pS f.1 ++ pS f.2
def bodyA (i : It) : List Int := pS i.r ++ pI i.e.a0 ++ pI i.e.a1 ++ pI i.e.a2 ++ pI i.e.a3 ++ pN i.e.ls.length
def bodyB (i : It) : List Int := bodyA i ++ (i.e.ls.map lnB).flatten ++ pI i.e.a5 ++ pI i.e.a6 ++ pS i.e.s7 ++ pS i.e.s8 ++ pN i.e.fs.length
def bodyI (i : It) : List Int := bodyB i ++ (i.e.fs.map fdB).flatten
theorem eF0 (e : Ev) : dFieldAddr tab ty31 0 (.fptr (evr e)) = some (.fptr ((evr e).drop 0)) := id rfl
theorem eF1 (e : Ev) : dFieldAddr tab ty31 1 (.fptr (evr e)) = some (.fptr ((evr e).drop 1)) := id rfl
theorem eF2 (e : Ev) : dFieldAddr tab ty31 2 (.fptr (evr e)) = some (.fptr ((evr e).drop 2)) := id rfl
theorem eF3 (e : Ev) : dFieldAddr tab ty31 3 (.fptr (evr e)) = some (.fptr ((evr e).drop 3)) := id rfl
theorem eF4 (e : Ev) : dFieldAddr tab ty31 4 (.fptr (evr e)) = some (.fptr ((evr e).drop 4)) := id rfl
theorem eF5 (e : Ev) : dFieldAddr tab ty31 5 (.fptr (evr e)) = some (.fptr ((evr e).drop 5)) := id rfl
theorem eF6 (e : Ev) : dFieldAddr tab ty31 6 (.fptr (evr e)) = some (.fptr ((evr e).drop 6)) := id rfl
theorem eF7 (e : Ev) : dFieldAddr tab ty31 7 (.fptr (evr e)) = some (.fptr ((evr e).drop 7)) := id rfl
theorem eF8 (e : Ev) : dFieldAddr tab ty31 8 (.fptr (evr e)) = some (.fptr ((evr e).drop 8)) := id rfl
theorem eF9 (e : Ev) : dFieldAddr tab ty31 9 (.fptr (evr e)) = some (.fptr ((evr e).drop 9)) := id rfl
theorem eL0 (e : Ev) (g : Hp) : dLoad tab g ty3 (.fptr ((evr e).drop 0)) = some (.int .i64 e.a0) := id rfl
theorem eL1 (e : Ev) (g : Hp) : dLoad tab g ty3 (.fptr ((evr e).drop 1)) = some (.int .i64 e.a1) := id rfl
theorem eL2 (e : Ev) (g : Hp) : dLoad tab g ty3 (.fptr ((evr e).drop 2)) = some (.int .i64 e.a2) := id rfl
theorem eL3 (e : Ev) (g : Hp) : dLoad tab g ty3 (.fptr ((evr e).drop 3)) = some (.int .i64 e.a3) := id rfl
theorem eL4 (e : Ev) (g : Hp) : dLoad tab g ty28 (.fptr ((evr e).drop 4)) = some e.ld := ld28 _ _ _
theorem eL5 (e : Ev) (g : Hp) : dLoad tab g ty3 (.fptr ((evr e).drop 5)) = some (.int .i64 e.a5) := id rfl
theorem eL6 (e : Ev) (g : Hp) : dLoad tab g ty3 (.fptr ((evr e).drop 6)) = some (.int .i64 e.a6) := id rfl
theorem eL7 (e : Ev) (g : Hp) : dLoad tab g ty9 (.fptr ((evr e).drop 7)) = some (.str e.s7) := id rfl
theorem eL8 (e : Ev) (g : Hp) : dLoad tab g ty9 (.fptr ((evr e).drop 8)) = some (.str e.s8) := id rfl
theorem eL9 (e : Ev) (g : Hp) : dLoad tab g ty29 (.fptr ((evr e).drop 9)) = some e.fd := ld29 _ _ _
theorem lF0 (l : Lin) : dFieldAddr tab ty78 0 (.fptr (linr l)) = some (.fptr (linr l)) := id rfl
theorem lF1 (l : Lin) : dFieldAddr tab ty78 1 (.fptr (linr l)) = some (.fptr [.int .i64 l.len, .str l.txt]) := id rfl
theorem lF2 (l : Lin) : dFieldAddr tab ty78 2 (.fptr (linr l)) = some (.fptr [.str l.txt]) := id rfl
theorem lL0 (l : Lin) (g : Hp) : dLoad tab g ty3 (.fptr (linr l)) = some (.int .i64 l.off) := id rfl
theorem fF0 (p : Str × Str) : dFieldAddr tab ty109 0 (.fptr (fld p)) = some (.fptr (fld p)) := id rfl
theorem fF1 (p : Str × Str) : dFieldAddr tab ty109 1 (.fptr (fld p)) = some (.fptr [.str p.2]) := id rfl
theorem fL0 (p : Str × Str) (g : Hp) : dLoad tab g ty9 (.fptr (fld p)) = some (.str p.1) := id rfl
theorem flat_take {α : Type} (f : α → List Int) {l : List α} {n : Nat} {x : α} (h : l[n]? = some x) : ((l.take (n + 1)).map f).flatten = ((l.take n).map f).flatten ++ f x := by
  rw [List.take_add_one, h]; simp [-bind_some]
theorem flat_le {α : Type} (f : α → List Int) (l : List α) (n : Nat) : ((l.take n).map f).flatten.length ≤ (l.map f).flatten.length := by
  conv => rhs; rw [← List.take_append_drop n l, List.map_append, List.flatten_append, List.length_append]
  omega
theorem ln_wp (e : Ev) {n0 : Nat} {h0 h : Hp} {d0 d : D} {p : List Int} (B : Bw n0 h0 d0 h p d) (hn : n0 ≤ h.length) (hb : p.length + (e.ls.map lnB).flatten.length ≤ 900000000) (x : D) {β : Type} {K : Out → Option β} {Q : β → Prop}
    (k : ∀ d' h' a b, Bw n0 h0 d0 h' (p ++ (e.ls.map lnB).flatten) d' → n0 ≤ h'.length → Wp (K (.ext 0, [d', a, b], h')) Q) : Wp ((loopW (F1115_L0 (.fptr (evr e))) [d, .int .i64 0, x] h).bind K) Q := by
  refine Wp.loop (fun k ds g => n0 ≤ g.length ∧ ∃ d' x, ∃ n : Nat, ds = [d', .int .i64 n, x] ∧ k + n = e.ls.length ∧ Bw n0 h0 d0 g (p ++ ((e.ls.take n).map lnB).flatten) d')
    (fun r => r.1 = .ext 0 ∧ n0 ≤ r.2.2.length ∧ (∃ d' a b, r.2.1 = [d', a, b] ∧ Bw n0 h0 d0 r.2.2 (p ++ (e.ls.map lnB).flatten) d')) e.ls.length ⟨hn, _, _, 0, rfl, rfl, by simpa using B⟩ ?_ ?_
  · rintro k ds g ⟨hg, d', x, n, rfl, hk, B⟩
    have hll := e.hll
    simp only [F1115_L0, nth_zero, nth_succ, bs, Option.bind_assoc, eF4, eL4, lens28 e.hld, dBin_lss]
    refine Wp.dif ?_ ?_
    · intro h0
      have h0 : n < e.ls.length := by have : (n : Int) < e.ls.length := by simpa using h0
                                      omega
      obtain ⟨l, hl⟩ : ∃ l, e.ls[n]? = some l := ⟨_, List.getElem?_eq_getElem h0⟩
      have hw : IntKind.wrap .i64 ((n : Int) + 1) = ((n + 1 : Nat) : Int) := by
        rw [wrap_i64 (by omega) (by omega)]; omega
      have hle := flat_le lnB e.ls (n + 1)
      rw [flat_take lnB hl, List.length_append] at hle
      have hln : (lnB l).length = 20 + l.txt.length := by simp [-bind_some, lnB, pI_len, pS_len]; omega
      have hix : dIndexAddr tab ty28 e.ld (.int .i64 (n : Int)) = some (.fptr (linr l)) := by rw [ixs28 e.hld]; simp [-bind_some, hl]
      simp only [hix, bs, lF0, lF1, lF2, lL0, ld3, ld9, chk_true]
      refine putI_wp B hg l.off (by simp only [List.length_append, List.length_nil, pI_len, pN_len, pS_len, putb_len]; omega) fun d1 g1 B1 n1 => ?_
      simp only [bs]
      refine putI_wp B1 n1 l.len (by simp only [List.length_append, List.length_nil, pI_len, pN_len, pS_len, putb_len]; omega) fun d2 g2 B2 n2 => ?_
      simp only [bs]
      refine putS_wp B2 n2 l.txt (by simp only [List.length_append, List.length_nil, pI_len, pN_len, pS_len, putb_len]; omega) fun d3 g3 B3 n3 => ?_
      simp only [bs, chk_true, dBin_add, hw]
      refine .some (.inl ⟨rfl, k - 1, by omega, n3, _, _, n + 1, rfl, by omega, ?_⟩)
      rw [flat_take lnB hl]
      simpa [-bind_some, lnB] using B3
    · intro h0
      have h0 : n = e.ls.length := by have : ¬ (n : Int) < e.ls.length := by simpa using h0
                                      omega
      subst h0
      rw [List.take_length] at B
      exact .some (.inr ⟨by simp, rfl, hg, _, _, _, rfl, B⟩)
  · rintro ⟨ex, ds, g⟩ ⟨rfl, q2, d', a, b, rfl, q3⟩
    exact k d' g a b q3 q2
theorem fd_wp (e : Ev) {n0 : Nat} {h0 h : Hp} {d0 d : D} {p : List Int} (B : Bw n0 h0 d0 h p d) (hn : n0 ≤ h.length) (hb : p.length + (e.fs.map fdB).flatten.length ≤ 900000000) (x : D) {β : Type} {K : Out → Option β} {Q : β → Prop}
    (k : ∀ d' h' a b, Bw n0 h0 d0 h' (p ++ (e.fs.map fdB).flatten) d' → n0 ≤ h'.length → Wp (K (.ext 2, [d', a, b], h')) Q) : Wp ((loopW (F1115_L1 (.fptr (evr e))) [d, .int .i64 0, x] h).bind K) Q := by
  refine Wp.loop (fun k ds g => n0 ≤ g.length ∧ ∃ d' x, ∃ n : Nat, ds = [d', .int .i64 n, x] ∧ k + n = e.fs.length ∧ Bw n0 h0 d0 g (p ++ ((e.fs.take n).map fdB).flatten) d')
    (fun r => r.1 = .ext 2 ∧ n0 ≤ r.2.2.length ∧ (∃ d' a b, r.2.1 = [d', a, b] ∧ Bw n0 h0 d0 r.2.2 (p ++ (e.fs.map fdB).flatten) d')) e.fs.length ⟨hn, _, _, 0, rfl, rfl, by simpa using B⟩ ?_ ?_
  · rintro k ds g ⟨hg, d', x, n, rfl, hk, B⟩
    have hll := e.hl
    simp only [F1115_L1, nth_zero, nth_succ, bs, Option.bind_assoc, eF9, eL9, lens29 e.hfd, dBin_lss]
    refine Wp.dif ?_ ?_
    · intro h0
      have h0 : n < e.fs.length := by have : (n : Int) < e.fs.length := by simpa using h0
                                      omega
      obtain ⟨l, hl⟩ : ∃ l, e.fs[n]? = some l := ⟨_, List.getElem?_eq_getElem h0⟩
      have hw : IntKind.wrap .i64 ((n : Int) + 1) = ((n + 1 : Nat) : Int) := by
        rw [wrap_i64 (by omega) (by omega)]; omega
      have hle := flat_le fdB e.fs (n + 1)
      rw [flat_take fdB hl, List.length_append] at hle
      have hln : (fdB l).length = 8 + l.1.length + l.2.length := by simp [-bind_some, fdB, pS_len]; omega
      have hix : dIndexAddr tab ty29 e.fd (.int .i64 (n : Int)) = some (.fptr (fld l)) := by rw [ixs29 e.hfd]; simp [-bind_some, hl]
      simp only [hix, bs, fF0, fF1, fL0, ld9, chk_true]
      refine putS_wp B hg l.1 (by simp only [List.length_append, List.length_nil, pI_len, pN_len, pS_len, putb_len]; omega) fun d1 g1 B1 n1 => ?_
      simp only [bs]
      refine putS_wp B1 n1 l.2 (by simp only [List.length_append, List.length_nil, pI_len, pN_len, pS_len, putb_len]; omega) fun d3 g3 B3 n3 => ?_
      simp only [bs, chk_true, dBin_add, hw]
      refine .some (.inl ⟨rfl, k - 1, by omega, n3, _, _, n + 1, rfl, by omega, ?_⟩)
      rw [flat_take fdB hl]
      simpa [-bind_some, fdB] using B3
    · intro h0
      have h0 : n = e.fs.length := by have : ¬ (n : Int) < e.fs.length := by simpa using h0
                                      omega
      subst h0
      rw [List.take_length] at B
      exact .some (.inr ⟨by simp, rfl, hg, _, _, _, rfl, B⟩)
  · rintro ⟨ex, ds, g⟩ ⟨rfl, q2, d', a, b, rfl, q3⟩
    exact k d' g a b q3 q2
theorem s1115 (i : It) (n0 : Nat) (h : Hp) (hn : n0 ≤ h.length) (hb : (bodyI i).length ≤ 900000000) : ∃ d' h', R fn1115 [.agg (itr i)] h = some (d', h') ∧ Bw n0 h .nils h' (bodyI i) d' := by
  suffices Wp (R fn1115 [.agg (itr i)] h) (fun p => Bw n0 h .nils p.2 (bodyI i) p.1) by
    obtain ⟨⟨x, h'⟩, h1, h2⟩ := this
    exact ⟨x, h', h1, h2⟩
  have hbx : boxN 10 (.agg (evr i.e)) = some (.fptr (evr i.e)) := boxN_agg 10 _ rfl
  have hbb := hb
  simp only [bodyI, bodyB, bodyA, List.length_append, pI_len, pN_len, pS_len] at hbb
  rw [e1115]
  simp only [F1115, pBoxF_agg, bs, Option.bind_assoc, itF0, itF1, itL0, evL, hbx, eF0, eF1, eF2, eF3, eF4, eF5, eF6, eF7, eF8, eF9, eL0, eL1, eL2, eL3, eL4, eL5, eL6, eL7, eL8, eL9, lens28 i.e.hld, lens29 i.e.hfd, cv3_1029, chk_true]
  have B0 : Bw n0 h .nils h [] .nils := Bw.refl (Own.nils _ _ _ _)
  refine putS_wp B0 hn i.r (by simp only [List.length_append, List.length_nil, pI_len, pN_len, pS_len, putb_len]; omega) fun d1 g1 B1 n1 => ?_
  simp only [bs]
  refine putI_wp B1 n1 _ (by simp only [List.length_append, List.length_nil, pI_len, pN_len, pS_len, putb_len]; omega) fun d2 g2 B2 n2 => ?_
  simp only [bs]
  refine putI_wp B2 n2 _ (by simp only [List.length_append, List.length_nil, pI_len, pN_len, pS_len, putb_len]; omega) fun d3 g3 B3 n3 => ?_
  simp only [bs]
  refine putI_wp B3 n3 _ (by simp only [List.length_append, List.length_nil, pI_len, pN_len, pS_len, putb_len]; omega) fun d4 g4 B4 n4 => ?_
  simp only [bs]
  refine putI_wp B4 n4 _ (by simp only [List.length_append, List.length_nil, pI_len, pN_len, pS_len, putb_len]; omega) fun d5 g5 B5 n5 => ?_
  simp only [bs, chk_true]
  refine putN_wp B5 n5 _ (by simp only [List.length_append, List.length_nil, pI_len, pN_len, pS_len, putb_len]; omega) fun d6 g6 B6 n6 => ?_
  simp only [bs]
  have hA : [] ++ pS i.r ++ pI i.e.a0 ++ pI i.e.a1 ++ pI i.e.a2 ++ pI i.e.a3 ++ putb 4 (IntKind.wrap .u64 i.e.ls.length) = bodyA i := by simp [-bind_some, bodyA, pN]
  rw [hA] at B6
  have hAl : (bodyA i).length = 4 + i.r.length + 36 := by simp [-bind_some, bodyA, pS_len, pI_len, pN_len]
  refine ln_wp i.e B6 n6 (by omega) _ fun d7 g7 a b B7 n7 => ?_
  simp only [bs, unblk_self, toEnd_nrm, nth_zero]
  refine putI_wp B7 n7 _ (by simp only [List.length_append, List.length_nil, pI_len, pN_len, pS_len, putb_len]; omega) fun d8 g8 B8 n8 => ?_
  simp only [bs]
  refine putI_wp B8 n8 _ (by simp only [List.length_append, List.length_nil, pI_len, pN_len, pS_len, putb_len]; omega) fun d9 g9 B9 n9 => ?_
  simp only [bs]
  refine putS_wp B9 n9 _ (by simp only [List.length_append, List.length_nil, pI_len, pN_len, pS_len, putb_len]; omega) fun d10 g10 B10 n10 => ?_
  simp only [bs]
  refine putS_wp B10 n10 _ (by simp only [List.length_append, List.length_nil, pI_len, pN_len, pS_len, putb_len]; omega) fun d11 g11 B11 n11 => ?_
  simp only [bs, chk_true]
  refine putN_wp B11 n11 _ (by simp only [List.length_append, List.length_nil, pI_len, pN_len, pS_len, putb_len]; omega) fun d12 g12 B12 n12 => ?_
  simp only [bs]
  have hB : bodyA i ++ (i.e.ls.map lnB).flatten ++ pI i.e.a5 ++ pI i.e.a6 ++ pS i.e.s7 ++ pS i.e.s8 ++ putb 4 (IntKind.wrap .u64 i.e.fs.length) = bodyB i := by simp [-bind_some, bodyB, pN]
  rw [hB] at B12
  have hBl : (bodyB i).length = (bodyA i).length + (i.e.ls.map lnB).flatten.length + 16 + (4 + i.e.s7.length) + (4 + i.e.s8.length) + 4 := by simp only [bodyB, List.length_append, pI_len, pS_len, pN_len]
  refine fd_wp i.e B12 n12 (by omega) _ fun d13 g13 a b B13 n13 => ?_
  simp only [bs, unblk_self, toEnd_nrm, nth_zero, mkRes_one]
  exact .some B13
def RdB (h : Hp) (l : List Int) (d : D) : Prop := SlOf 1 byr l d ∨ ∃ ob, d = .msl 1 ob 0 l.length ∧ h[ob]? = some (Ob.row ty5 1 (l.map byr))
theorem RdB.own {h : Hp} {n0 : Nat} {l : List Int} {d : D} (ow : Own h n0 ty5 1 (l.map byr) d) : RdB h l d := by
  rcases ow with ⟨rfl, hl⟩ | ⟨o, _, rfl, hg⟩
  · exact .inl (.inl ⟨rfl, by simpa using hl⟩)
  · exact .inr ⟨o, by simp, hg⟩
theorem rdB_len {h : Hp} {l : List Int} {d : D} (hd : RdB h l d) : dLenT tab ty22 d = some (.int .i64 l.length) := by
  rcases hd with hd | ⟨ob, rfl, _⟩
  · exact lens22 hd
  · exact lenm22 _ _ _ _
theorem rdB_ix {h : Hp} {l : List Int} {d : D} (hd : RdB h l d) (i : Nat) (z : Int) (hz : l[i]? = some z) : ∃ q, dIndexAddr tab ty22 d (.int .i64 i) = some q ∧ dLoad tab h ty5 q = some (.int .u8 z) := by
  rcases hd with hd | ⟨ob, rfl, ho⟩
  · exact ⟨.fptr (byr z), by rw [ixs22 hd]; simp [-bind_some, hz], byr_ld z h⟩
  · have hlt := (List.getElem?_eq_some_iff.1 hz).1
    refine ⟨.ptr ob (0 + i) 0, by rw [ixm22]; simp [-bind_some, hlt], ?_⟩
    rw [ldp5, row_of ho, List.getElem?_map]
    simp [-bind_some, hz, byr]
theorem rdB_rows {h : Hp} {l : List Int} {d : D} (hd : RdB h l d) : dRowsOf h 1 d = some (l.map byr) := by
  rcases hd with hd | ⟨ob, rfl, ho⟩
  · rcases hd with ⟨rfl, rfl⟩ | ⟨b, rfl⟩
    · rfl
    · exact rowsOf_sl _ _ _ _
  · simp only [dRowsOf, if_true, ho, List.drop_zero]
    rw [List.take_of_length_le (by simp)]
theorem RdB.keep {h h' : Hp} {l : List Int} {d : D} (hd : RdB h l d) (hk : ∀ (q T z : Nat) (rows : List (List D)), h[q]? = some (Ob.row T z rows) → h'[q]? = h[q]?) : RdB h' l d := by
  rcases hd with hd | ⟨ob, rfl, ho⟩
  · exact .inl hd
  · exact .inr ⟨ob, rfl, by rw [hk _ _ _ _ ho]; exact ho⟩
def chkS (l : List Int) : Int := l.foldl (fun c z => (c * 31 + z) % 4294967291) 1
theorem chkS_take {l : List Int} {n : Nat} {z : Int} (h : l[n]? = some z) : chkS (l.take (n + 1)) = (chkS (l.take n) * 31 + z) % 4294967291 := by
  unfold chkS
  rw [List.take_add_one, h]
  simp [-bind_some]
theorem chkS_range : ∀ (l : List Int), 0 ≤ chkS l ∧ chkS l < 4294967291 := by
  intro l
  unfold chkS
  generalize hc : (1 : Int) = c
  have h0 : 0 ≤ c ∧ c < 4294967291 := by omega
  clear hc
  induction l generalizing c with
  | nil => exact h0
  | cons z r ih =>
    simp only [List.foldl_cons]
    exact ih _ (by omega)
theorem s1117x (l : List Int) (d : D) (h : Hp) (hdl : dLenT tab ty22 d = some (.int .i64 l.length)) (hdx : ∀ (i : Nat) (z : Int), l[i]? = some z → ∃ q, dIndexAddr tab ty22 d (.int .i64 i) = some q ∧ dLoad tab h ty5 q = some (.int .u8 z)) (hl : l.length ≤ 9223372036854775806) (hu : ∀ z ∈ l, U8 z) : R fn1117 [d] h = some (.int .u64 (chkS l), h) := by
  suffices Wp (R fn1117 [d] h) (fun p => p = (.int .u64 (chkS l), h)) by
    obtain ⟨p, h1, rfl⟩ := this
    exact h1
  rw [e1117]
  simp only [F1117, bs, Option.bind_assoc]
  refine Wp.loop (fun k ds g => g = h ∧ ∃ x, ∃ n : Nat, ds = [.int .u64 (chkS (l.take n)), .int .i64 n, x] ∧ k + n = l.length) (fun r => r.1 = .ext 0 ∧ r.2.2 = h ∧ ∃ a b, r.2.1 = [.int .u64 (chkS l), a, b]) l.length ⟨rfl, _, 0, rfl, rfl⟩ ?_ ?_
  · rintro k ds g ⟨rfl, x, n, rfl, hk⟩
    simp only [F1117_L0, nth_zero, nth_succ, bs, Option.bind_assoc, hdl, dBin_lss]
    refine Wp.dif ?_ ?_
    · intro h0
      have h0 : n < l.length := by have : (n : Int) < l.length := by simpa using h0
                                   omega
      obtain ⟨z, hz⟩ : ∃ z, l[n]? = some z := ⟨_, List.getElem?_eq_getElem h0⟩
      have hzu := hu z (List.mem_of_getElem? hz)
      obtain ⟨q, q1, q2⟩ := hdx n z hz
      have hr := chkS_range (l.take n)
      have hw : IntKind.wrap .i64 ((n : Int) + 1) = ((n + 1 : Nat) : Int) := by
        rw [wrap_i64 (by omega) (by omega)]; omega
      unfold U8 at hzu
      have w1 : IntKind.wrap .u64 (chkS (l.take n) * 31) = chkS (l.take n) * 31 := wrap_u64 (by omega) (by omega)
      have w2 : IntKind.wrap .u64 z = z := wrap_u64 (by omega) (by omega)
      have w3 : IntKind.wrap .u64 (chkS (l.take n) * 31 + z) = chkS (l.take n) * 31 + z := wrap_u64 (by omega) (by omega)
      have w4 : (chkS (l.take n) * 31 + z).tmod 4294967291 = chkS (l.take (n + 1)) := by
        rw [chkS_take hz, Int.tmod_eq_emod_of_nonneg (by omega)]
      simp only [dBin_mul, w1, q1, q2, cv5_1029, w2, dBin_add, w3, bs, dBin_rem, show ¬ ((4294967291 : Int) = 0) by omega, if_false, w4, hw]
      exact .some (.inl ⟨rfl, k - 1, by omega, rfl, _, n + 1, rfl, by omega⟩)
    · intro h0
      have h0 : n = l.length := by have : ¬ (n : Int) < l.length := by simpa using h0
                                   omega
      subst h0
      rw [List.take_length]
      exact .some (.inr ⟨by simp, rfl, rfl, _, _, rfl⟩)
  · rintro ⟨ex, ds, g⟩ ⟨rfl, q2, a, b, rfl⟩
    simp only at q2
    subst q2
    simp only [unblk_self, toEnd_nrm, bs, nth_zero, mkRes_one]
    exact .some rfl
theorem s1117 (l : List Int) (d : D) (h : Hp) (hd : RdB h l d) (hl : l.length ≤ 9223372036854775806) (hu : ∀ z ∈ l, U8 z) : R fn1117 [d] h = some (.int .u64 (chkS l), h) := s1117x l d h (rdB_len hd) (fun i z hz => rdB_ix hd i z hz) hl hu
theorem bodyI_u8 (i : It) : ∀ z ∈ bodyI i, U8 z := by
  have hI : ∀ n, ∀ z ∈ pI n, U8 z := fun n => putb_u8 _ _
  have hN : ∀ n, ∀ z ∈ pN n, U8 z := fun n => putb_u8 _ _
  have hS : ∀ s, ∀ z ∈ pS s, U8 z := fun s z hz => by
    rcases List.mem_append.1 hz with h | h
    · exact hN _ z h
    · exact sby_u8 _ z h
  intro z hz
  simp only [bodyI, bodyB, bodyA, List.mem_append, List.mem_flatten, List.mem_map] at hz
  rcases hz with ((((((((((((h | h) | h) | h) | h) | h) | ⟨_, ⟨l, _, rfl⟩, h⟩) | h) | h) | h) | h) | h)) | ⟨_, ⟨l, _, rfl⟩, h⟩
  · exact hS _ z h
  · exact hI _ z h
  · exact hI _ z h
  · exact hI _ z h
  · exact hI _ z h
  · exact hN _ z h
  · simp only [lnB, List.mem_append] at h
    rcases h with (h | h) | h
    · exact hI _ z h
    · exact hI _ z h
    · exact hS _ z h
  · exact hI _ z h
  · exact hI _ z h
  · exact hS _ z h
  · exact hS _ z h
  · exact hN _ z h
  · simp only [fdB, List.mem_append] at h
    rcases h with h | h
    · exact hS _ z h
    · exact hS _ z h
def encH (i : It) : List Int := putb 4 (IntKind.wrap .u64 (((bodyI i).length : Int) + 4)) ++ bodyI i
def encI (i : It) : List Int := encH i ++ putb 4 (chkS (encH i))
theorem encH_u8 (i : It) : ∀ z ∈ encH i, U8 z := fun z hz => by
  rcases List.mem_append.1 hz with h | h
  · exact putb_u8 _ _ z h
  · exact bodyI_u8 i z h
theorem encI_u8 (i : It) : ∀ z ∈ encI i, U8 z := fun z hz => by
  rcases List.mem_append.1 hz with h | h
  · exact encH_u8 i z h
  · exact putb_u8 _ _ z h
theorem encI_len (i : It) : (encI i).length = (bodyI i).length + 8 := by
  simp only [encI, encH, List.length_append, putb_len]; omega
theorem ldItB (i : It) (h : Hp) : dLoad tab h ty74 (.fptr (itr i)) = some (.agg (itr i)) := id rfl
theorem s1114 (i : It) (c : Int) (h : Hp) (hc : ∀ g, R fn1004 [.agg (itr i)] g = some (.int .i64 c, g)) (hb : (bodyI i).length ≤ 900000000) : ∃ d', R fn1114 [.agg (itr i)] h = some (.tup [d', .int .i64 c], h) ∧ SlOf 1 byr (if c = 0 then encI i else []) d' := by
  suffices Wp (R fn1114 [.agg (itr i)] h) (fun p => p.2 = h ∧ ∃ d', p.1 = .tup [d', .int .i64 c] ∧ SlOf 1 byr (if c = 0 then encI i else []) d') by
    obtain ⟨⟨x, h'⟩, h1, rfl, d', rfl, h2⟩ := this
    exact ⟨d', h1, h2⟩
  rw [e1114]
  simp only [F1114, pBoxF_agg, bs, Option.bind_assoc, ldItB, hc, dBin_neq]
  refine Wp.dif ?_ ?_
  · intro h0
    have h0 : ¬ c = 0 := by simpa using h0
    simp only [bs, mkRes_two]
    rw [scope_eq (d' := .tup [.nils, .int .i64 c]) (by simp) (.tup _ fun d hd => by simp at hd; rcases hd with rfl | rfl <;> constructor) (Nat.le_refl _) fun _ _ => rfl]
    exact .some ⟨rfl, _, rfl, by rw [if_neg h0]; exact .nils _ _⟩
  · intro h0
    have h0 : c = 0 := by simpa using h0
    subst h0
    obtain ⟨d1, h1, e1, B1⟩ := s1115 i h.length h (Nat.le_refl _) hb
    have w1 : IntKind.wrap .i64 (((bodyI i).length : Int) + 4) = ((bodyI i).length : Int) + 4 := wrap_i64 (by omega) (by omega)
    have r1 := RdB.own B1.ow
    refine Wp.step e1 ?_
    simp only [bs, rdB_len r1, dBin_add, w1, cv3_1029]
    obtain ⟨d2, h2, e2, B2⟩ := s1116 (IntKind.wrap .u64 (((bodyI i).length : Int) + 4)) 4 (by omega) h1.length h1 [] .nils (Nat.le_refl _) (Own.nils _ _ _ _) (by simp)
    have e2 : R fn1116 [.nils, .int .u64 (IntKind.wrap .u64 (((bodyI i).length : Int) + 4)), .int .i64 4] h1 = some (d2, h2) := e2
    refine Wp.step e2 ?_
    simp only [bs]
    have r2 : RdB h2 (bodyI i) d1 := by
      rcases B1.ow with ⟨hx, hl⟩ | ⟨o, ho, hx, hg⟩
      · exact .inl (.inl ⟨hx, by simpa using hl⟩)
      · refine .inr ⟨o, by rw [hx]; simp [-bind_some], ?_⟩
        have holt := (List.getElem?_eq_some_iff.1 hg).1
        rw [B2.old o holt (fun hh => by obtain ⟨z, n, hh⟩ := hh; cases hh)]
        exact hg
    have ow2 : Own h2 h.length ty5 1 ((([] : List Int) ++ putb 4 (IntKind.wrap .u64 (((bodyI i).length : Int) + 4))).map byr) d2 := B2.ow.from B1.len
    obtain ⟨d3, h3, e3, B3⟩ := app_b (Nat.le_trans B1.len B2.len) ow2 (rdB_rows r2) (by simp only [List.length_append, List.length_nil, putb_len]; omega)
    refine Wp.step e3 ?_
    simp only [bs]
    have hH : [] ++ putb 4 (IntKind.wrap .u64 (((bodyI i).length : Int) + 4)) ++ bodyI i = encH i := by simp [-bind_some, encH]
    rw [hH] at B3
    have hHl : (encH i).length = 4 + (bodyI i).length := by simp only [encH, List.length_append, putb_len]
    have e4 := s1117 (encH i) d3 h3 (RdB.own B3.ow) (by omega) (encH_u8 i)
    refine Wp.step e4 ?_
    simp only [bs]
    have hn3 : h.length ≤ h3.length := Nat.le_trans (Nat.le_trans B1.len B2.len) B3.len
    obtain ⟨d5, h5, e5, B5⟩ := s1116 (chkS (encH i)) 4 (by omega) h.length h3 (encH i) d3 hn3 B3.ow (by omega)
    have e5 : R fn1116 [d3, .int .u64 (chkS (encH i)), .int .i64 4] h3 = some (d5, h5) := e5
    refine Wp.step e5 ?_
    have hE : encH i ++ putb 4 (chkS (encH i)) = encI i := rfl
    rw [hE] at B5
    simp only [bs, mkRes_two]
    have hsl := own_sl (n0 := h.length) (n := 2) B5.ow (Nat.le_refl _) (fun a _ => byr_frz _ h5 2 a)
    have hlow : ∀ q, q < h.length → h5[q]? = h[q]? := fun q hq => by
      have nd : ∀ {d : D} {g : Hp} {l : List Int}, Own g h.length ty5 1 (l.map byr) d → ¬ d.inOb q := fun ow hx => by have := (ow.lt hx).1; omega
      rw [B5.old q (by omega) (nd B3.ow), B3.old q (by have := B1.len; have := B2.len; omega) (nd ow2), B2.old q (by have := B1.len; omega) (fun hh => by obtain ⟨z, n, hh⟩ := hh; cases hh),
        B1.old q hq (fun hh => by obtain ⟨z, n, hh⟩ := hh; cases hh)]
    rw [scope_eq (d' := .tup [frz h.length h5 3 d5, .int .i64 0]) (by simp) (by
      refine .tup _ fun d hd => ?_
      simp at hd
      rcases hd with rfl | rfl
      · exact slof_ok hsl fun a _ => byr_ok _ a
      · constructor) (Nat.le_trans hn3 B5.len) hlow]
    exact .some ⟨rfl, _, rfl, by simpa using hsl⟩
theorem flat_bound {α : Type} (f : α → List Int) (m : Nat) : ∀ (l : List α), (∀ a ∈ l, (f a).length ≤ m) → (l.map f).flatten.length ≤ l.length * m
  | [], _ => by simp
  | a :: l, h => by
    have h1 := h a (by simp)
    have h2 := flat_bound f m l fun b hb => h b (by simp [-bind_some, hb])
    simp only [List.map_cons, List.flatten_cons, List.length_append, List.length_cons, Nat.succ_mul]
    omega
theorem or_nat (w x b k : Nat) (hb : b < 2 ^ k) (hx : x * 2 ^ k + b < 2 ^ w) : (BitVec.ofInt w ((x * 2 ^ k : Nat) : Int) ||| BitVec.ofInt w (b : Int)).toNat = x * 2 ^ k + b := by
  rw [BitVec.ofInt_natCast, BitVec.ofInt_natCast, BitVec.toNat_or, BitVec.toNat_ofNat, BitVec.toNat_ofNat, Nat.mod_eq_of_lt (by omega), Nat.mod_eq_of_lt (by omega)]
  rw [← Nat.shiftLeft_eq, ← Nat.shiftLeft_add_eq_or_of_lt hb, Nat.shiftLeft_eq]
theorem wrap_bv64 (x : BitVec IntKind.u64.bits) : IntKind.wrap .u64 (x.toNat : Int) = x.toNat := by
  have := x.isLt
  have h2 : (2 : Nat) ^ IntKind.u64.bits = 18446744073709551616 := by decide
  exact wrap_u64 (by omega) (by omega)
theorem or_u64 {x b : Int} (k : Nat) (h0 : 0 ≤ x) (hb0 : 0 ≤ b) (hb : b < 2 ^ k) (hx : x * 2 ^ k + b < 18446744073709551616) : IntKind.wrap .u64 (BitVec.ofInt IntKind.u64.bits (x * 2 ^ k) ||| BitVec.ofInt IntKind.u64.bits b).toNat = x * 2 ^ k + b := by
  obtain ⟨X, rfl⟩ := Int.eq_ofNat_of_zero_le h0
  obtain ⟨B, rfl⟩ := Int.eq_ofNat_of_zero_le hb0
  have e : ((X : Int) * 2 ^ k) = ((X * 2 ^ k : Nat) : Int) := by push_cast; rfl
  have hB : B < 2 ^ k := by exact_mod_cast hb
  have hX : X * 2 ^ k + B < 2 ^ IntKind.u64.bits := by
    have h2 : (2 : Nat) ^ IntKind.u64.bits = 18446744073709551616 := by decide
    rw [h2]
    rw [e] at hx
    generalize X * 2 ^ k = Y at hx
    omega
  have := or_nat IntKind.u64.bits X B k hB hX
  rw [e, wrap_bv64, this]
  push_cast; rfl
theorem num_take {l : List Int} {n : Nat} {z : Int} (h : l[n]? = some z) : num (l.take (n + 1)) = num (l.take n) * 256 + z := by
  unfold num
  rw [List.take_add_one, h]
  simp [-bind_some]
theorem cut2_by {l : List Int} {d : D} (hd : SlOf 1 byr l d) (a b : Nat) (hab : a ≤ b) (hb : b ≤ l.length) : ∃ d', dSliceAt tab ty22 true true false [d, .int .i64 a, .int .i64 b] = some d' ∧ SlOf 1 byr ((l.take b).drop a) d' := by
  have t1 : tab ty22 = some ti22 := id rfl
  have t2 : ti22.td = .sl ty5 := id rfl
  have t3 : tab ty5 = some ti5 := id rfl
  have t4 : ti5.sz = 1 := id rfl
  simp only [dSliceAt, dInt?, bs, dSlice3, t1, t2, t3]
  rcases hd with ⟨rfl, rfl⟩ | ⟨f, rfl⟩
  · have : b = 0 := by simpa using hb
    subst this
    have : a = 0 := by omega
    subst this
    exact ⟨_, rfl, .inl ⟨rfl, rfl⟩⟩
  · have h1 : (a : Int) ≤ b := by omega
    have h2 : (b : Int) ≤ l.length := by omega
    simp [-bind_some, t4, h1, h2, hb, hab]
    exact .inr ⟨_, by rw [List.map_drop, List.map_take]⟩
theorem nil_ob (q : Nat) : ¬ D.inOb .nils q := fun hh => by obtain ⟨z, n, hh⟩ := hh; cases hh
theorem own_live {h : Hp} {n0 e z : Nat} {rows : List (List D)} {d : D} (ow : Own h n0 e z rows d) {q : Nat} (hq : d.inOb q) : h[q]? = some (.row e z rows) := by
  obtain ⟨z', n, rfl⟩ := hq
  rcases ow with ⟨hd, _⟩ | ⟨o, ho, hd, hg⟩
  · cases hd
  · injection hd with _ h2
    subst h2
    exact hg
theorem own_apart {h : Hp} {n n' e e' z z' : Nat} {rows rows' : List (List D)} {d d' : D} (a : Own h n e z rows d) (b : Own h n' e' z' rows' d') (hne : e ≠ e') {q : Nat} (hq : d.inOb q) : ¬ d'.inOb q := fun hx => by
  have h1 := own_live a hq
  have h2 := own_live b hx
  rw [h1] at h2
  injection h2 with h2
  injection h2 with h3
  exact hne h3
theorem l1134 (v : Int) (n0 : Nat) : ∀ (k : Nat), k ≤ 8 → ∀ (h : Hp) (l : List Int) (d a : D), n0 ≤ h.length → Own h n0 ty5 1 (l.map byr) d → l.length + k ≤ 1000000000 → ∃ d' h' b, loopW (F1134_L0 (.int .u64 v)) [d, .int .i64 (8 * ((k : Int) - 1)), a] h = some (.ext 0, [d', b, .bool false], h') ∧ Bw n0 h d h' (l ++ putb k v) d' := by
  intro k
  induction k with
  | zero =>
    intro _ h l d a hn ow hr
    rw [loopW_eq]
    refine ⟨d, h, _, by simp [-bind_some, F1134_L0]; rfl, ?_⟩
    simpa [-bind_some, putb] using Bw.refl ow
  | succ k ih =>
    intro hk h l d a hn ow hr
    have hg : (0 : Int) ≤ 8 * (((k + 1 : Nat) : Int) - 1) := by omega
    have hw1 : 8 * (((k + 1 : Nat) : Int) - 1) = 8 * (k : Int) := by omega
    have hw2 : IntKind.wrap .i64 (8 * (k : Int) - 8) = 8 * ((k : Int) - 1) := by rw [wrap_i64 (by omega) (by omega)]; omega
    have h8 : ¬ (8 * (k : Int)) < 0 := by omega
    have hmn : min (8 * (k : Int)).toNat IntKind.u64.bits = 8 * k := by
      have : IntKind.u64.bits = 64 := rfl
      rw [this]; omega
    obtain ⟨x', g, e1, B1⟩ := app_b (y := .sl 1 true [byr (IntKind.wrap .u8 (v.fdiv (2 ^ (8 * k))))]) (m := [IntKind.wrap .u8 (v.fdiv (2 ^ (8 * k)))]) hn ow (rowsOf_sl _ _ _ _) (by simp; omega)
    obtain ⟨d', h', b, e2, B2⟩ := ih (by omega) g _ x' (.bool true) (Nat.le_trans hn B1.len) B1.ow (by simp; omega)
    refine ⟨d', h', b, ?_, ?_⟩
    · rw [loopW_eq]
      rw [hw1] at hg ⊢
      simp only [F1134_L0, nth_zero, nth_succ, bs, dBin_geq, decide_eq_true hg, dIf_bool, if_true, dBin_shr, h8, if_false, hmn, cv1029_5, bs22_1, show ∀ z, ([[D.int .u8 z]] : List (List D)) = [byr z] from fun _ => rfl, e1, dBin_sub, hw2]
      exact e2
    · have := B1.trans B2
      simpa [-bind_some, putb] using this
theorem s1134 (v : Int) (k : Nat) (hk : k ≤ 8) (n0 : Nat) (h : Hp) (l : List Int) (d : D) (hn : n0 ≤ h.length) (ow : Own h n0 ty5 1 (l.map byr) d) (hr : l.length ≤ 999999000) : ∃ d' h', R fn1134 [d, .int .u64 v, .int .i64 k] h = some (d', h') ∧ Bw n0 h d h' (l ++ putb k v) d' := by
  obtain ⟨d', h', b, e1, B⟩ := l1134 v n0 k hk h l d .any hn ow (by omega)
  refine ⟨d', h', ?_, B⟩
  rw [e1134]
  have hw : IntKind.wrap .i64 ((k : Int) - 1) = (k : Int) - 1 := by rw [wrap_i64 (by omega) (by omega)]
  have hw2 : IntKind.wrap .i64 (8 * ((k : Int) - 1)) = 8 * ((k : Int) - 1) := by rw [wrap_i64 (by omega) (by omega)]
  simp only [F1134, bs, dBin_sub, hw, dBin_mul, hw2, Option.bind_assoc, e1, unblk_self, toEnd_nrm, nth_zero, mkRes_one]
theorem s1135 (l : List Int) (d : D) (h : Hp) (hd : RdB h l d) (hl : l.length ≤ 9223372036854775806) (hu : ∀ z ∈ l, U8 z) : R fn1135 [d] h = some (.int .u64 (chkS l), h) := by
  suffices Wp (R fn1135 [d] h) (fun p => p = (.int .u64 (chkS l), h)) by
    obtain ⟨p, h1, rfl⟩ := this
    exact h1
  rw [e1135]
  simp only [F1135, bs, Option.bind_assoc, rdB_len hd]
  refine Wp.loop (fun k ds g => g = h ∧ ∃ x y, ∃ n : Nat, ds = [.int .u64 (chkS (l.take n)), x, .int .i64 n, y] ∧ k + n = l.length) (fun r => r.1 = .ext 0 ∧ r.2.2 = h ∧ ∃ a b c, r.2.1 = [.int .u64 (chkS l), a, b, c]) l.length ⟨rfl, _, _, 0, rfl, rfl⟩ ?_ ?_
  · rintro k ds g ⟨rfl, x, y, n, rfl, hk⟩
    simp only [F1135_L0, nth_zero, nth_succ, bs, Option.bind_assoc, dBin_lss]
    refine Wp.dif ?_ ?_
    · intro h0
      have h0 : n < l.length := by have : (n : Int) < l.length := by simpa using h0
                                   omega
      obtain ⟨z, hz⟩ : ∃ z, l[n]? = some z := ⟨_, List.getElem?_eq_getElem h0⟩
      have hzu := hu z (List.mem_of_getElem? hz)
      obtain ⟨q, q1, q2⟩ := rdB_ix hd n z hz
      have hr := chkS_range (l.take n)
      have hw : IntKind.wrap .i64 ((n : Int) + 1) = ((n + 1 : Nat) : Int) := by
        rw [wrap_i64 (by omega) (by omega)]; omega
      unfold U8 at hzu
      have w1 : IntKind.wrap .u64 (chkS (l.take n) * 31) = chkS (l.take n) * 31 := wrap_u64 (by omega) (by omega)
      have w2 : IntKind.wrap .u64 z = z := wrap_u64 (by omega) (by omega)
      have w3 : IntKind.wrap .u64 (chkS (l.take n) * 31 + z) = chkS (l.take n) * 31 + z := wrap_u64 (by omega) (by omega)
      have w4 : (chkS (l.take n) * 31 + z).tmod 4294967291 = chkS (l.take (n + 1)) := by
        rw [chkS_take hz, Int.tmod_eq_emod_of_nonneg (by omega)]
      simp only [dBin_mul, w1, q1, q2, cv5_1029, w2, dBin_add, w3, bs, dBin_rem, show ¬ ((4294967291 : Int) = 0) by omega, if_false, w4, hw]
      exact .some (.inl ⟨rfl, k - 1, by omega, rfl, _, _, n + 1, rfl, by omega⟩)
    · intro h0
      have h0 : n = l.length := by have : ¬ (n : Int) < l.length := by simpa using h0
                                   omega
      subst h0
      rw [List.take_length]
      exact .some (.inr ⟨by simp, rfl, rfl, _, _, _, rfl⟩)
  · rintro ⟨ex, ds, g⟩ ⟨rfl, q2, a, b, c, rfl⟩
    simp only at q2
    subst q2
    simp only [unblk_self, toEnd_nrm, bs, nth_zero, mkRes_one]
    exact .some rfl
structure WrS (n0 oi ow : Nat) (h0 : Hp) (it : List D) (g : Hp) (l : List Int) : Prop where
  hi : g[oi]? = some (.row ty74 11 [it])
  hw : ∃ d, g[ow]? = some (.row ty1101 1 [[d]]) ∧ Own g n0 ty5 1 (l.map byr) d
  lo : ∀ q, q < n0 → g[q]? = h0[q]?
  ln : n0 ≤ g.length
theorem ldw {g : Hp} {ow : Nat} {d : D} (h : g[ow]? = some (.row ty1101 1 [[d]])) : dLoad tab g ty22 (.ptr ow 0 (0 + 0)) = some d := by rw [ldp22, row_of h]; rfl
theorem WrS.put {n0 oi ow : Nat} {h0 : Hp} {it : List D} {g g' : Hp} {l l' : List Int} {d d' : D} (s : WrS n0 oi ow h0 it g l) (hn : n0 ≤ ow) (hw : g[ow]? = some (.row ty1101 1 [[d]])) (hb : Own g n0 ty5 1 (l.map byr) d) (B : Bw n0 g d g' l' d') {β : Type} {f : Hp → Option β} {Q : β → Prop}
    (k : ∀ g2, WrS n0 oi ow h0 it g2 l' → Wp (f g2) Q) : Wp ((dStore tab g' ty22 (.ptr ow 0 (0 + 0)) d').bind f) Q := by
  have hnd : ∀ {q T z : Nat} {rows : List (List D)}, g[q]? = some (.row T z rows) → T ≠ ty5 → ¬ d.inOb q := fun hq hT hx => by
    have := own_live hb hx
    rw [hq] at this
    injection this with this
    injection this with h1
    exact hT h1
  have keep : ∀ {q T z : Nat} {rows : List (List D)}, g[q]? = some (.row T z rows) → T ≠ ty5 → g'[q]? = some (.row T z rows) := fun hq hT => by
    rw [B.old _ (List.getElem?_eq_some_iff.1 hq).1 (hnd hq hT)]; exact hq
  have hw' := keep hw (by decide)
  have hi' := keep s.hi (by decide)
  refine wst22 hw' (by rfl) (by rcases B.ow with ⟨rfl, _⟩ | ⟨o, _, rfl, _⟩ <;> rfl) (by simp) (by rcases B.ow with ⟨rfl, _⟩ | ⟨o, _, rfl, _⟩ <;> rfl) fun g2 h2 s2 => ?_
  have hne : oi ≠ ow := fun hh => by
    subst hh
    rw [s.hi] at hw
    injection hw with hw
    injection hw with h1
    exact absurd h1 (by decide)
  have hc : cells1 d' = [d'] := by rcases B.ow with ⟨rfl, _⟩ | ⟨o, _, rfl, _⟩ <;> rfl
  have h2 : g2[ow]? = some (.row ty1101 1 [[d']]) := by rw [h2, hc]; rfl
  refine k g2 ⟨by rw [s2.2 oi hne]; exact hi', ⟨d', h2, B.ow.keep fun q _ hx => s2.2 q fun hh => ?_⟩, fun q hq => ?_, ?_⟩
  · subst hh
    have := own_live B.ow hx
    rw [hw'] at this
    injection this with this
    injection this with h1
    exact absurd h1 (by decide)
  · rw [s2.2 q (by omega), B.old q (by have := s.ln; omega) (fun hx => by have := (hb.lt hx).1; omega)]
    exact s.lo q hq
  · have := s2.1; have := B.len; have := s.ln; omega
theorem w1150 {n0 oi ow : Nat} {h0 : Hp} {it : List D} {g : Hp} {l : List Int} (s : WrS n0 oi ow h0 it g l) (hn : n0 ≤ ow) (hl : l.length ≤ 999999000) (t : D) (n : Int) (ht : dNilCheck tab t = some t) (hld : dLoad tab g ty3 t = some (.int .i64 n)) {β : Type} {f : D × Hp → Option β} {Q : β → Prop}
    (k : ∀ g2, WrS n0 oi ow h0 it g2 (l ++ pI n) → Wp (f (mkRes [], g2)) Q) : Wp ((R fn1150 [.ptr ow 0 0, t] g).bind f) Q := by
  obtain ⟨d, hw, hb⟩ := s.hw
  obtain ⟨d', g1, e1, B⟩ := s1134 (IntKind.wrap .u64 n) 8 (by omega) n0 g l d s.ln hb hl
  have e1 : R fn1134 [d, .int .u64 (IntKind.wrap .u64 n), .int .i64 8] g = some (d', g1) := e1
  rw [e1150]
  simp only [F1150, bs, nilCheck_ptr, fap1101_0, ldw hw, ht, hld, cv3_1029, e1, Option.bind_assoc]
  refine s.put hn hw hb B fun g2 s2 => ?_
  try simp only [bs]
  exact k g2 s2
theorem w1149 {n0 oi ow : Nat} {h0 : Hp} {it : List D} {g : Hp} {l : List Int} (s : WrS n0 oi ow h0 it g l) (hn : n0 ≤ ow) (hl : l.length ≤ 999999000) (n : Nat) {β : Type} {f : D × Hp → Option β} {Q : β → Prop}
    (k : ∀ g2, WrS n0 oi ow h0 it g2 (l ++ pN n) → Wp (f (.int .i64 n, g2)) Q) : Wp ((R fn1149 [.ptr ow 0 0, .int .i64 n] g).bind f) Q := by
  obtain ⟨d, hw, hb⟩ := s.hw
  obtain ⟨d', g1, e1, B⟩ := s1134 (IntKind.wrap .u64 n) 4 (by omega) n0 g l d s.ln hb hl
  have e1 : R fn1134 [d, .int .u64 (IntKind.wrap .u64 n), .int .i64 4] g = some (d', g1) := e1
  rw [e1149]
  simp only [F1149, bs, nilCheck_ptr, fap1101_0, ldw hw, cv3_1029, e1, Option.bind_assoc]
  refine s.put hn hw hb B fun g2 s2 => ?_
  simp only [bs, mkRes_one]
  exact k g2 s2
end Go.Proofs.YtlpedofpnbggbaaDoor
