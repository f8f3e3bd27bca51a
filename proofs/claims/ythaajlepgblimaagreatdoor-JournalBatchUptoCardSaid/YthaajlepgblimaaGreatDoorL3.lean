/- Laws, on plain data, about functions that the statement reaches. -/
import Derived.Test.YthaajlepgblimaaGreatDoorL2
set_option linter.unusedSimpArgs false
set_option linter.unusedVariables false
set_option linter.unnecessarySimpa false
set_option maxRecDepth 100000
namespace Go.Proofs.YthaajlepgblimaaGreatDoor
open Go.Eng Go.Pi
open Option (bind_some)
theorem b9z (l : List Int) (d : D) (h : Hp) (hd : SlOf 1 byr l d) (hl : l.length ≤ 8) (hu : ∀ z ∈ l, U8 z) : R a6z [d] h = some (.int .u64 (num l), h) := by
 apply Wp.val
 rw [c8C]
 simp only [c3X, bs, d4X, a1l hd]
 refine Wp.loop (fun k ds g => g = h ∧ ∃ x y, ∃ n : Nat, ds = [.int .u64 (num (l.take n)), x, .int .i64 n, y] ∧ k + n = l.length) (fun r => r.1 = .ext 0 ∧ r.2.2 = h ∧ ∃ a b c, r.2.1 = [.int .u64 (num l), a, b, c]) l.length ⟨rfl, _, _, 0, rfl, rfl⟩ ?_ ?_
 ·rintro k ds g ⟨rfl, x, y, n, rfl, hk⟩
  simp only [b2w, a0f, a0n, bs, d4X, a0j]
  refine Wp.dif ?_ ?_
  ·intro h0
   have h0 : n < l.length := dl_ h0
   obtain ⟨z, hz⟩ := gx_ h0
   have hzu := hu z (d5m hz)
   have hw := wi_ n (by omega)
   unfold U8 at hzu
   obtain ⟨hn0, hn1⟩ := a2m n (l.take n) (by simp; omega) fun z hz => hu z (List.mem_of_mem_take hz)
   have hb : num (l.take n) < 72057594037927936 := by
    have : n = 0 ∨ n = 1 ∨ n = 2 ∨ n = 3 ∨ n = 4 ∨ n = 5 ∨ n = 6 ∨ n = 7 := by omega
    rcases this with rfl | rfl | rfl | rfl | rfl | rfl | rfl | rfl <;> omega
   have m3 : min ((8 : Int).toNat) IntKind.u64.bits = 8 := by decide
   have p3 : (2 : Int) ^ 8 = 256 := by decide
   have w1 : IntKind.wrap .u64 (num (l.take n) * 2 ^ 8) = num (l.take n) * 2 ^ 8 := by rw [p3]; exact a1j (by omega) (by omega)
   have w2 : IntKind.wrap .u64 z = z := a1j (by omega) (by omega)
   have w3 := b3F (x := num (l.take n)) (b := z) 8 hn0 (by omega) (by rw [p3]; omega) (by rw [p3]; omega)
   have hii : a0b tab a0H d (.int .i64 (n : Int)) = some (.fptr (byr z)) := by rw [a3X hd]; simp [-bind_some, hz]
   rw [p3, ← a4Q hz] at w3
   rw [p3] at w1
   simp only [hii, a7d, bs, a5C, show ¬ (8 : Int) < 0 by omega, if_false, m3, p3, w1, a5B, w2, a7j, w3, a0u, hw]
   exact .some (.inl ⟨rfl, k - 1, by omega, rfl, _, _, n + 1, rfl, by omega⟩)
  ·intro h0
   have h0 : n = l.length := by
    have : ¬ (n : Int) < l.length := by simpa using h0
    omega
   subst h0
   rw [d5x]
   exact .some (.inr ⟨by simp, rfl, rfl, _, _, _, rfl⟩)
 ·rintro ⟨ex, ds, g⟩ ⟨rfl, q2, a, b, c, rfl⟩
  simp only at q2
  subst q2
  simp only [a0l, a0o, bs, a0f, a0g]
  exact .some rfl
abbrev Cur := List Int × Bool
def a0N (s : Cur) (n : Int) : List Int × Cur := if s.2 = true ∨ n < 0 ∨ (s.1.length : Int) < n then ([], (s.1, true)) else (s.1.take n.toNat, (s.1.drop n.toNat, false))
def a1k (s : Cur) : Int × Cur := (IntKind.wrap .i64 (num (a0N s 8).1), (a0N s 8).2)
def a1B (s : Cur) : Int × Cur := (IntKind.wrap .i64 (num (a0N s 4).1), (a0N s 4).2)
def a0O (s : Cur) : Option Str × Cur := if (a0N (a1B s).2 (a1B s).1).2.2 = true then (none, (a0N (a1B s).2 (a1B s).1).2) else (some (bys (a0N (a1B s).2 (a1B s).1).1), (a0N (a1B s).2 (a1B s).1).2)
def a0P (s : Cur) : Int × Cur := if (a1B s).2.2 = true ∨ ((a1B s).2.1.length : Int).tdiv 8 < (a1B s).1 then (0, ((a1B s).2.1, true)) else a1B s
def CuO (g : Hp) (oc : Nat) (s : Cur) : Prop := ∃ d, g[oc]? = some (.row a1M 2 [[d, .bool s.2]]) ∧ SlOf 1 byr s.1 d ∧ (∀ z ∈ s.1, U8 z) ∧ s.1.length ≤ 1000000000
theorem b8P {g : Hp} {oc : Nat} {d : D} {b : Bool} (h : g[oc]? = some (.row a1M 2 [[d, .bool b]])) : a0c tab g a0H (.ptr oc 0 (0 + 0)) = some d ∧ a0c tab g ty4 (.ptr oc 0 (0 + 1)) = some (.bool b) := ⟨by rw [b9o, a0V h]; rfl, by rw [d2w, a0V h]; rfl⟩
theorem a6W {s : Cur} (hu : ∀ z ∈ s.1, U8 z) (n : Int) : (∀ z ∈ (a0N s n).1, U8 z) ∧ (∀ z ∈ (a0N s n).2.1, U8 z) ∧ (a0N s n).2.1.length ≤ s.1.length := by
 unfold a0N
 split
 ·exact ⟨by simp, hu, Nat.le_refl _⟩
 ·exact ⟨fun z hz => hu z (List.mem_of_mem_take hz), fun z hz => hu z (List.mem_of_mem_drop hz), by simp⟩
theorem a5Y (s : Cur) (n : Nat) : (a0N s n).1.length ≤ n := by
 unfold a0N
 split
 ·simp [-bind_some]
 ·simp [-bind_some]; omega
theorem c1r {g : Hp} {oc : Nat} {s : Cur} (hc : CuO g oc s) (n : Int) : ∃ d g', R a5R [.ptr oc 0 0, .int .i64 n] g = some (d, g') ∧ SlOf 1 byr (a0N s n).1 d ∧ CuO g' oc (a0N s n).2 ∧ Same oc g g' := by
 suffices Wp (R a5R [.ptr oc 0 0, .int .i64 n] g) (fun p => SlOf 1 byr (a0N s n).1 p.1 ∧ CuO p.2 oc (a0N s n).2 ∧ Same oc g p.2) by
  obtain ⟨⟨x, h'⟩, h1, h2⟩ := this
  exact ⟨x, h', h1, h2⟩
 obtain ⟨d, ho, hd, hu, hl⟩ := hc
 obtain ⟨l1, l2⟩ := b8P ho
 obtain ⟨b, bad⟩ := s
 simp only at ho hd hu hl l2
 rw [c8O]
 have bad1 : ∀ {β : Type} (F : Hp → Option β) (Q : β → Prop), (∀ g', SlOf 1 byr ([] : List Int) .nils → CuO g' oc (b, true) → Same oc g g' → Wp (F g') Q) → Wp ((a0h tab g ty4 (.ptr oc 0 (0 + 1)) (.bool true)).bind F) Q := fun F Q k => by
  refine d2i ho (by rfl) (by rfl) (by simp) (by rfl) fun g' h' s' => ?_
  exact k g' (.nils _ _) ⟨d, h', hd, hu, hl⟩ s'
 simp only [c4j, bs, a0x, a2r, a5L, l1, l2, a1l hd, a0r, d4X]
 by_cases hb : bad = true
 ·subst hb
  have ht : a0N (b, true) n = ([], (b, true)) := by simp [-bind_some, a0N]
  rw [ht]
  simp only [reduceCtorEq, d4Z, if_false, bs, a0e, if_true, a0d, a0r]
  refine bad1 _ _ fun g' h1 h2 h3 => ?_
  simp only [bs, a0g]
  exact .some ⟨h1, h2, h3⟩
 ·have hb : bad = false := by simpa using hb
  subst hb
  by_cases hn : n < 0
  ·have ht : a0N (b, false) n = ([], (b, true)) := by simp [-bind_some, a0N, hn]
   rw [ht]
   simp only [a0r, a0x, a2r, l1, a1l hd, d4X, if_true, bs, a0j, hn, decide_true, reduceCtorEq, d4Z, d4Y, if_false, a0e, a0d]
   refine bad1 _ _ fun g' h1 h2 h3 => ?_
   simp only [bs, a0g]
   exact .some ⟨h1, h2, h3⟩
  ·by_cases hgt : n > (b.length : Int)
   ·have ht : a0N (b, false) n = ([], (b, true)) := by simp [-bind_some, a0N, hn, hgt]
    rw [ht]
    simp only [a0r, a0x, a2r, l1, a1l hd, d4X, if_true, bs, a0j, hn, decide_false, a0v, hgt, decide_true, reduceCtorEq, d4Z, d4Y, if_false, a0e, a0d]
    refine bad1 _ _ fun g' h1 h2 h3 => ?_
    simp only [bs, a0g]
    exact .some ⟨h1, h2, h3⟩
   ·have ht : a0N (b, false) n = (b.take n.toNat, (b.drop n.toNat, false)) := by
      unfold a0N
      rw [if_neg (by simp only [d4Y, false_or]; omega)]
    rw [ht]
    obtain ⟨d1, e1, s1⟩ := b4B hd (k := .i64) (n := n) (by omega) (by omega)
    obtain ⟨d2, e2, s2⟩ := b1V hd (k := .i64) (n := n) (by omega) (by omega)
    simp only [a0r, a0x, a2r, l1, a1l hd, d4X, if_true, bs, a0j, hn, decide_false, a0v, hgt, reduceCtorEq, d4Z, d4Y, if_false, a0e, a0d, e1, e2]
    have hcl : a0z d2 = [d2] := (a0T (a1z s2)).1
    refine c2H ho (kk := 0) (row := [d, .bool false]) (by rfl) (by rw [hcl]; rfl) (by simp) (a0T (a1z s2)).2 fun g' h' s' => ?_
    rw [hcl] at h'
    simp only [bs, a0g]
    exact .some ⟨s1, ⟨d2, h', s2, fun z hz => hu z (List.mem_of_mem_drop hz), by simp; omega⟩, s'⟩
theorem b1U (row : List D) (off : Nat) (v : D) (hv : v.one = true) (ho : off < row.length) : spl row off (a0z v) = row.set off v := by
 rw [(a0T hv).1]
 simp only [spl, List.length_singleton]
 rw [List.set_eq_take_append_cons_drop, if_pos ho]
 simp [-bind_some]
structure Cell (g : Hp) (oc o k off : Nat) (T z : Nat) (rows : List (List D)) (row : List D) : Prop where
 ho : g[o]? = some (.row T z rows)
 hr : rows[k]? = some row
 lt : off < row.length
 ne : o ≠ oc
def Wrt (g g' : Hp) (oc o : Nat) : Prop := g'.length = g.length ∧ ∀ q, q ≠ oc → q ≠ o → g'[q]? = g[q]?
theorem c1q {g : Hp} {oc : Nat} {s : Cur} (hc : CuO g oc s) {o k off T z : Nat} {rows : List (List D)} {row : List D} (C : Cell g oc o k off T z rows row) {β : Type} {f : D × Hp → Option β} {Q : β → Prop}
  (K : ∀ g', CuO g' oc (a1k s).2 → g'[o]? = some (.row T z (rows.set k (row.set off (.int .i64 (a1k s).1)))) → Wrt g g' oc o → Wp (f (a0i [], g')) Q) : Wp ((R b3m [.ptr oc 0 0, .ptr o k off] g).bind f) Q := by
 obtain ⟨d, g1, e1, h1, h2, h3⟩ := c1r hc 8
 have hu := hc.choose_spec.2.2.1
 have e2 := b9z _ d g1 h1 (a5Y s 8) (a6W hu 8).1
 have ho1 : g1[o]? = some (.row T z rows) := by rw [h3.2 o C.ne]; exact C.ho
 rw [c8M]
 simp only [c4h, bs, e1, e2, a2T, a0x, d4X]
 refine b8s ho1 C.hr (by rfl) (by have := C.lt; omega) (by rfl) fun g2 p2 s2 => ?_
 try simp only [bs]
 rw [b1U _ _ _ rfl C.lt] at p2
 refine K g2 ?_ p2 ⟨by rw [s2.1, h3.1], fun q q1 q2 => by rw [s2.2 q q2, h3.2 q q1]⟩
 obtain ⟨dd, x1, x2⟩ := h2
 exact ⟨dd, by rw [s2.2 oc (Ne.symm C.ne)]; exact x1, x2⟩
theorem c4B {g : Hp} {oc : Nat} {s : Cur} (hc : CuO g oc s) : ∃ d g1, R a5R [.ptr oc 0 0, .int .i64 4] g = some (d, g1) ∧ R a6z [d] g1 = some (.int .u64 (num (a0N s 4).1), g1) ∧ CuO g1 oc (a1B s).2 ∧ Same oc g g1 := by
 obtain ⟨d, g1, e1, h1, h2, h3⟩ := c1r hc 4
 have hu := hc.choose_spec.2.2.1
 exact ⟨d, g1, e1, b9z _ d g1 h1 (Nat.le_trans (a5Y s 4) (by omega)) (a6W hu 4).1, h2, h3⟩
theorem b8G {g : Hp} {oc : Nat} {s : Cur} (hc : CuO g oc s) {o k off T z : Nat} {rows : List (List D)} {row : List D} (C : Cell g oc o k off T z rows row) {u : Str} (hold : row[off]? = some (.str u)) {β : Type} {f : D × Hp → Option β} {Q : β → Prop}
  (K : ∀ g', CuO g' oc (a0O s).2 → g'[o]? = some (.row T z (rows.set k (row.set off (.str ((a0O s).1.getD u))))) → Wrt g g' oc o → Wp (f (a0i [], g')) Q) : Wp ((R b3n [.ptr oc 0 0, .ptr o k off] g).bind f) Q := by
 obtain ⟨d, g1, e1, e2, h2, h3⟩ := c4B hc
 obtain ⟨d3, g3, e3, q1, q2, q3⟩ := c1r h2 (a1B s).1
 have e3 : R a5R [.ptr oc 0 0, .int .i64 (IntKind.wrap .i64 (num (a0N s 4).1))] g1 = some (d3, g3) := e3
 have st13 : Same oc g g3 := h3.trans q3
 have ho3 : g3[o]? = some (.row T z rows) := by rw [st13.2 o C.ne]; exact C.ho
 obtain ⟨dd, x1, x2⟩ := q2
 have l2 := (b8P x1).2
 rw [c8N]
 simp only [c4i, bs, e1, e2, a2T, e3, a0x, a5L, l2, a1m, d4X]
 cases hbad : (a0N (a1B s).2 (a1B s).1).2.2 with
 | true =>
  have ht : a0O s = (none, (a0N (a1B s).2 (a1B s).1).2) := by unfold a0O; rw [if_pos hbad]
  rw [ht] at K
  simp only [hbad, d5i, a0d, d4Y, if_false, bs, a2E]
  refine K g3 ⟨dd, x1, x2⟩ ?_ ⟨st13.1, fun q a _ => st13.2 q a⟩
  rw [ho3]
  have hrs : row.set off (.str u) = row := by
   have hlt := C.lt
   have : row[off] = .str u := (d5p.1 hold).2
   rw [← this, List.set_getElem_self]
  have hrr : rows.set k row = rows := by
   obtain ⟨hk1, hk2⟩ := d5p.1 C.hr
   rw [← hk2, List.set_getElem_self]
  simp only [Option.getD_none, hrs, hrr]
 | false =>
  have ht : a0O s = (some (bys (a0N (a1B s).2 (a1B s).1).1), (a0N (a1B s).2 (a1B s).1).2) := by unfold a0O; rw [if_neg (by rw [hbad]; simp [-bind_some])]
  rw [ht] at K
  simp only [hbad, d5j, a0d, if_true, a6X q1, bs, d4X]
  refine b9M ho3 C.hr (by rfl) (by have := C.lt; omega) (by rfl) fun g2 p2 s2 => ?_
  rw [b1U _ _ _ rfl C.lt] at p2
  simp only [bs, a2E]
  exact K g2 ⟨dd, by rw [s2.2 oc (Ne.symm C.ne)]; exact x1, x2⟩ p2 ⟨by rw [s2.1, st13.1], fun q a b => by rw [s2.2 q b, st13.2 q a]⟩
theorem c7k {g : Hp} {oc : Nat} {s : Cur} (hc : CuO g oc s) (m : D) {β : Type} {f : D × Hp → Option β} {Q : β → Prop}
  (K : ∀ g', CuO g' oc (a0P s).2 → Same oc g g' → Wp (f (.int .i64 (a0P s).1, g')) Q) : Wp ((R b3l [.ptr oc 0 0, m] g).bind f) Q := by
 obtain ⟨d, g1, e1, e2, h2, h3⟩ := c4B hc
 obtain ⟨dd, x1, x2, x3, x4⟩ := h2
 obtain ⟨l1, l2⟩ := b8P x1
 rw [c8L]
 have hn : (a1B s).1 = IntKind.wrap .i64 (num (a0N s 4).1) := rfl
 have wq : IntKind.wrap .i64 (((a1B s).2.1.length : Int).tdiv 8) = ((a1B s).2.1.length : Int).tdiv 8 := by
  rw [Int.tdiv_eq_ediv_of_nonneg (by omega)]
  exact wrap_i64 (by omega) (by omega)
 have bad1 : ∀ {γ : Type} (F : Hp → Option γ) (Q : γ → Prop), (∀ g', CuO g' oc ((a1B s).2.1, true) → Same oc g g' → Wp (F g') Q) → Wp ((a0h tab g1 ty4 (.ptr oc 0 (0 + 1)) (.bool true)).bind F) Q := fun F Q k => by
  refine d2i x1 (by rfl) (by rfl) (by simp) (by rfl) fun g' h' s' => ?_
  exact k g' ⟨dd, h', x2, x3, x4⟩ (h3.trans s')
 simp only [c4g, bs, e1, e2, a2T, ← hn, a0x, a2r, a5L, l1, l2, a0r, a1l x2, d4X]
 cases hb : (a1B s).2.2 with
 | true =>
  have ht : a0P s = (0, ((a1B s).2.1, true)) := by unfold a0P; rw [if_pos (.inl hb)]
  rw [ht] at K
  simp only [a0r, a0x, a2r, l1, a1l x2, reduceCtorEq, d4Z, if_false, bs, a0e, if_true, a0d, d4X]
  refine bad1 _ _ fun g' h1 h2 => ?_
  simp only [bs, a0g]
  exact K g' h1 h2
 | false =>
  by_cases hgt : (a1B s).1 > ((a1B s).2.1.length : Int).tdiv 8
  ·have ht : a0P s = (0, ((a1B s).2.1, true)) := by unfold a0P; rw [if_pos (.inr hgt)]
   rw [ht] at K
   simp only [a0r, a0x, a2r, l1, a1l x2, if_true, bs, b2K, show ¬ ((8 : Int) = 0) by omega, if_false, wq, a0v, hgt, decide_true, reduceCtorEq, d4Z, d4Y, a0e, a0d, d4X]
   refine bad1 _ _ fun g' h1 h2 => ?_
   simp only [bs, a0g]
   exact K g' h1 h2
  ·have ht : a0P s = a1B s := by unfold a0P; rw [if_neg (by rw [hb]; simp only [d4Y, false_or]; exact hgt)]
   rw [ht] at K
   simp only [a0r, a0x, a2r, l1, a1l x2, if_true, bs, b2K, show ¬ ((8 : Int) = 0) by omega, if_false, wq, a0v, hgt, decide_false, reduceCtorEq, d4Z, d4Y, a0e, a0d, d4X, a0g]
   exact K g1 ⟨dd, x1, x2, x3, x4⟩ h3
def a4z (s : Cur) : Lin × Cur := (⟨(a1k s).1, (a1k (a1k s).2).1, (a0O (a1k (a1k s).2).2).1.getD []⟩, (a0O (a1k (a1k s).2).2).2)
def a4n : Nat → Cur → List Lin × Cur
 | 0, s => ([], s)
 | n + 1, s => ((a4z s).1 :: (a4n n (a4z s).2).1, (a4n n (a4z s).2).2)
def fdS (s : Cur) : (Str × Str) × Cur := (((a0O s).1.getD [], (a0O (a0O s).2).1.getD []), (a0O (a0O s).2).2)
def a4r : Nat → Cur → List (Str × Str) × Cur
 | 0, s => ([], s)
 | n + 1, s => ((fdS s).1 :: (a4r n (fdS s).2).1, (a4r n (fdS s).2).2)
theorem c6Z (d : D) : a0s tab (.fn (.method "logtide/event.number") [.iface a3J d] []) = some (.fn (.method "logtide/event.number") [.iface a3J d] []) := by kernel_rfl
theorem c7a (d : D) : a0s tab (.fn (.method "logtide/event.text") [.iface a3J d] []) = some (.fn (.method "logtide/event.text") [.iface a3J d] []) := by kernel_rfl
theorem d1c (d : D) : a0s tab (.fn (.method "logtide/event.count") [.iface a3J d] []) = some (.fn (.method "logtide/event.count") [.iface a3J d] []) := by kernel_rfl
structure ViS (n0 oi oc : Nat) (h0 g : Hp) (row : List D) (s : Cur) : Prop where
 hi : g[oi]? = some (.row a0D 11 [row])
 hc : CuO g oc s
 lo : ∀ q, q < n0 → g[q]? = h0[q]?
 ni : n0 ≤ oi
 nc : n0 ≤ oc
theorem ViS.ne {n0 oi oc : Nat} {h0 g : Hp} {row : List D} {s : Cur} (v : ViS n0 oi oc h0 g row s) : oi ≠ oc := fun hh => by
 obtain ⟨d, h1, _⟩ := v.hc
 rw [← hh, v.hi] at h1
 injection h1 with h1
 injection h1 with h2
 exact absurd h2 (by decide)
theorem ViS.ln {n0 oi oc : Nat} {h0 g : Hp} {row : List D} {s : Cur} (v : ViS n0 oi oc h0 g row s) : n0 ≤ g.length := by
 have := (d5p.1 v.hi).1
 have := v.ni
 omega
theorem a1V {g : Hp} {n e z o T z' : Nat} {rows : List (List D)} {rr : List (List D)} {d : D} (ow : Own g n e z rows d) (ho : g[o]? = some (.row T z' rr)) (hne : e ≠ T) {q : Nat} (hq : d.inOb q) : q ≠ o := fun hh => by
 have := a3l ow hq
 rw [hh, ho] at this
 injection this with this
 injection this with h2
 exact hne h2.symm
theorem Own.wrt {g g' : Hp} {oc o n e z : Nat} {rows : List (List D)} {d : D} (ow : Own g n e z rows d) (hw : Wrt g g' oc o) {T1 z1 T2 z2 : Nat} {r1 r2 : List (List D)} (h1 : g[oc]? = some (.row T1 z1 r1)) (h2 : g[o]? = some (.row T2 z2 r2)) (e1 : e ≠ T1) (e2 : e ≠ T2) : Own g' n e z rows d :=
 ow.keep fun q _ hx => hw.2 q (a1V ow h1 e1 hx) (a1V ow h2 e2 hx)
theorem c2W {n0 oi oc : Nat} {h0 g : Hp} {row : List D} {s : Cur} (v : ViS n0 oi oc h0 g row s) (off : Nat) (hoff : off < row.length) {β : Type} {f : D × Hp → Option β} {Q : β → Prop}
  (K : ∀ g', ViS n0 oi oc h0 g' (row.set off (.int .i64 (a1k s).1)) (a1k s).2 → Wrt g g' oc oi → Wp (f (a0i [], g')) Q) : Wp ((R b3m [.ptr oc 0 0, .ptr oi 0 off] g).bind f) Q :=
 c1q v.hc ⟨v.hi, rfl, hoff, v.ne⟩ fun g' h1 h2 h3 => K g' ⟨h2, h1, fun q hq => by rw [h3.2 q (by have := v.nc; omega) (by have := v.ni; omega)]; exact v.lo q hq, v.ni, v.nc⟩ h3
theorem c2A {n0 oi oc : Nat} {h0 g : Hp} {row : List D} {s : Cur} (v : ViS n0 oi oc h0 g row s) (off : Nat) {u : Str} (hu : row[off]? = some (.str u)) {β : Type} {f : D × Hp → Option β} {Q : β → Prop}
  (K : ∀ g', ViS n0 oi oc h0 g' (row.set off (.str ((a0O s).1.getD u))) (a0O s).2 → Wrt g g' oc oi → Wp (f (a0i [], g')) Q) : Wp ((R b3n [.ptr oc 0 0, .ptr oi 0 off] g).bind f) Q :=
 b8G v.hc ⟨v.hi, rfl, (d5p.1 hu).1, v.ne⟩ hu fun g' h1 h2 h3 => K g' ⟨h2, h1, fun q hq => by rw [h3.2 q (by have := v.nc; omega) (by have := v.ni; omega)]; exact v.lo q hq, v.ni, v.nc⟩ h3
theorem c0P {n0 oi oc : Nat} {h0 g : Hp} {row : List D} {s : Cur} (v : ViS n0 oi oc h0 g row s) (m : D) {β : Type} {f : D × Hp → Option β} {Q : β → Prop}
  (K : ∀ g', ViS n0 oi oc h0 g' row (a0P s).2 → Wrt g g' oc oi → Wp (f (.int .i64 (a0P s).1, g')) Q) : Wp ((R b3l [.ptr oc 0 0, m] g).bind f) Q :=
 c7k v.hc m fun g' h1 h2 => K g' ⟨by rw [h2.2 oi v.ne]; exact v.hi, h1, fun q hq => by rw [h2.2 q (by have := v.nc; omega)]; exact v.lo q hq, v.ni, v.nc⟩ ⟨h2.1, fun q a _ => h2.2 q a⟩
theorem a6u {g : Hp} {oc : Nat} {s : Cur} (hc : CuO g oc s) : 0 ≤ (a0P s).1 ∧ (a0P s).1 ≤ 1000000000 := by
 obtain ⟨d, h1, h2, h3, h4⟩ := hc
 have h5 := a6W h3 4
 have hl : (a0N s 4).1.length ≤ 4 := a5Y s 4
 obtain ⟨r0, r1⟩ := a2m _ _ rfl h5.1
 have r2 : num (a0N s 4).1 < 4294967296 := by
  have hc : (a0N s 4).1.length = 0 ∨ (a0N s 4).1.length = 1 ∨ (a0N s 4).1.length = 2 ∨ (a0N s 4).1.length = 3 ∨ (a0N s 4).1.length = 4 := by omega
  rcases hc with h | h | h | h | h <;> rw [h] at r1 <;> omega
 have hn : (a1B s).1 = num (a0N s 4).1 := wrap_i64 (by omega) (by omega)
 unfold a0P
 split
 ·exact ⟨by simp, by simp⟩
 ·rename_i hh
  have h6 : ((a1B s).2.1.length : Int) ≤ 1000000000 := by
   have : (a1B s).2.1.length ≤ s.1.length := h5.2.2
   omega
  rw [Int.tdiv_eq_ediv_of_nonneg (by omega)] at hh
  have h7 : ¬ ((a1B s).2.1.length : Int) / 8 < (a1B s).1 := fun hx => hh (.inr hx)
  rw [hn] at h7
  rw [hn]
  omega
def itc (r : Str) (a0 a1 a2 a3 : Int) (ld : D) (a5 a6 : Int) (s7 s8 : Str) (fd : D) : List D := [.str r, .int .i64 a0, .int .i64 a1, .int .i64 a2, .int .i64 a3, ld, .int .i64 a5, .int .i64 a6, .str s7, .str s8, fd]
theorem c1N {g : Hp} {oi : Nat} {r : Str} {a0 a1 a2 a3 : Int} {ld : D} {a5 a6 : Int} {t7 t8 : Str} {fd : D} (h : g[oi]? = some (.row a0D 11 [itc r a0 a1 a2 a3 ld a5 a6 t7 t8 fd])) : a0c tab g a1u (.ptr oi 0 (0 + 1 + 4)) = some ld ∧ a0c tab g a1c (.ptr oi 0 (0 + 1 + 9)) = some fd := ⟨by rw [b6C, a0V h]; rfl, by rw [c5q, a0V h]; rfl⟩
def a3f : List D := [.int .i64 0, .int .i64 0, .str []]
theorem c6y {n0 oi oc : Nat} {h0 : Hp} {r : Str} {a0 a1 a2 a3 : Int} {a5 a6 : Int} {t7 t8 : Str} {fd : D} {g : Hp} {s : Cur} (N : Nat) (hN : N ≤ 1000000000) {pp : D × Hp} (hpp : pp.1 = .int .i64 N) (v : ViS n0 oi oc h0 g (itc r a0 a1 a2 a3 .nils a5 a6 t7 t8 fd) s) (hfd : fd = .nils) (x1 x2 x3 x4 : D) {β : Type} {K : Out → Option β} {Q : β → Prop}
  (k : ∀ g' ld b1 b2 b3 b4 b5, ViS n0 oi oc h0 g' (itc r a0 a1 a2 a3 ld a5 a6 t7 t8 fd) (a4n N s).2 → Own g' n0 a1A 3 ((a4n N s).1.map a1p) ld → Wp (K (.ext 2, [b1, b2, b3, b4, b5], g')) Q) : Wp ((a0I (a6K (.iface a3J (.ptr oc 0 0)) (.ptr oi 0 (0 + 1)) pp) [x1, x2, .int .i64 0, x3, x4] g).bind K) Q := by
 refine Wp.loop (fun kk ds g' => ∃ b1 b2 b4 b5 ld, ∃ n : Nat, ∃ L : List Lin, ∃ s' : Cur, ds = [b1, b2, .int .i64 n, b4, b5] ∧ kk + n = N ∧ ViS n0 oi oc h0 g' (itc r a0 a1 a2 a3 ld a5 a6 t7 t8 fd) s' ∧ Own g' n0 a1A 3 (L.map a1p) ld ∧ L.length = n ∧ L ++ (a4n (N - n) s').1 = (a4n N s).1 ∧ (a4n (N - n) s').2 = (a4n N s).2)
  (fun r2 => r2.1 = .ext 2 ∧ ∃ b1 b2 b3 b4 b5 ld, r2.2.1 = [b1, b2, b3, b4, b5] ∧ ViS n0 oi oc h0 r2.2.2 (itc r a0 a1 a2 a3 ld a5 a6 t7 t8 fd) (a4n N s).2 ∧ Own r2.2.2 n0 a1A 3 ((a4n N s).1.map a1p) ld) N ⟨_, _, _, _, .nils, 0, [], s, rfl, rfl, v, Own.nils _ _ _ _, rfl, by simp, by simp⟩ ?_ ?_
 ·rintro kk ds g' ⟨b1, b2, b4, b5, ld, n, L, s', rfl, hk, v', ow, hL, e1, e2⟩
  simp only [a6K, a0f, a0n, bs, d4X, hpp, a0j]
  refine Wp.dif ?_ ?_
  ·intro h1
   have h1 : n < N := by
    have : (n : Int) < (N : Int) := by simpa using h1
    omega
   have hw := wi_ n (by omega)
   have hll : ((L.map a1p).length : Int) = n := by simp [-bind_some, hL]
   have hbz : a1h tab a1u 1 [0] [.agg a3f] = some (.sl 3 true [a3f]) := id rfl
   have hzl : a0X tab a1A [] [] = some (.agg a3f) := id rfl
   simp only [a0x, a3t, (c1N v'.hi).1, c0r ow, hll, bs, a0R, decide_true, a0d, if_true, hzl, hbz, d4X]
   refine b4E (ys := [a3f]) v'.ln ow (a1g _ _ _ _) (by simp; omega) fun ld2 g2 ow2 len2 bel2 old2 _ => ?_
   obtain ⟨dc, c1, c2, c3, c4⟩ := v'.hc
   have hi2 : g2[oi]? = some (.row a0D 11 [itc r a0 a1 a2 a3 ld a5 a6 t7 t8 fd]) := by rw [old2 oi (d5p.1 v'.hi).1 (fun hx => a1V ow v'.hi (by decide) hx rfl)]; exact v'.hi
   have hc2 : g2[oc]? = some (.row a1M 2 [[dc, .bool s'.2]]) := by rw [old2 oc (d5p.1 c1).1 (fun hx => a1V ow c1 (by decide) hx rfl)]; exact c1
   simp only [bs]
   refine b8o hi2 (by rfl) (by rw [(a0T (a2a ow2)).1]; rfl) (by simp [-bind_some, itc]) (a0T (a2a ow2)).2 fun g3 p3 s3 => ?_
   rw [(a0T (a2a ow2)).1] at p3
   have p3 : g3[oi]? = some (.row a0D 11 [itc r a0 a1 a2 a3 ld2 a5 a6 t7 t8 fd]) := p3
   have hc3 : g3[oc]? = some (.row a1M 2 [[dc, .bool s'.2]]) := by rw [s3.2 oc (Ne.symm v'.ne)]; exact hc2
   have ow3 : Own g3 n0 a1A 3 (L.map a1p ++ [a3f]) ld2 := ow2.keep fun q _ hx => s3.2 q (a1V ow2 hi2 (by decide) hx)
   have v3 : ViS n0 oi oc h0 g3 (itc r a0 a1 a2 a3 ld2 a5 a6 t7 t8 fd) s' := ⟨p3, ⟨dc, hc3, c2, c3, c4⟩, fun q hq => by rw [s3.2 q (by have := v'.ni; omega), bel2 q hq]; exact v'.lo q hq, v'.ni, v'.nc⟩
   obtain ⟨ol, hol, hld2, ho3⟩ := a4k ow3 (i := n) (by simp; omega)
   have hlen3 : (L.map a1p ++ [a3f]).length = n + 1 := by simp [-bind_some, hL]
   have hrn : (L.map a1p ++ [a3f])[n]? = some a3f := by rw [List.getElem?_append_right (by simp [-bind_some, hL])]; simp [-bind_some, hL]
   have hne3 : ol ≠ oc := fun hh => by rw [hh, hc3] at ho3; injection ho3 with ho3; injection ho3 with h2; exact absurd h2 (by decide)
   have hne3i : ol ≠ oi := fun hh => by rw [hh, p3] at ho3; injection ho3 with ho3; injection ho3 with h2; exact absurd h2 (by decide)
   have i0 : (0 : Int) ≤ (n : Int) ∧ (n : Int) < (((L.map a1p ++ [a3f]).length : Nat) : Int) := by omega
   have hix : a0b tab a1u ld2 (.int .i64 (n : Int)) = some (.ptr ol n 0) := by rw [hld2, b9l, if_pos i0]; simp [-bind_some]
   simp only [bs, a0o, a0x, a3t, (c1N v3.hi).1, hix, a3b, a3c, a2M, c6Z, c7a, a1L, a2P, d4X]
   refine c1q v3.hc ⟨ho3, hrn, by simp [-bind_some, a3f], hne3⟩ fun g4 q1 q2 q3 => ?_
   have hsn : ∀ (x : List D), (L.map a1p ++ [a3f]).set n x = L.map a1p ++ [x] := fun x => by rw [List.set_append_right _ _ (by simp [-bind_some, hL])]; simp [-bind_some, hL]
   rw [hsn] at q2
   have hgn : ∀ (x : List D), (L.map a1p ++ [x])[n]? = some x := fun x => by rw [List.getElem?_append_right (by simp [-bind_some, hL])]; simp [-bind_some, hL]
   have hsn' : ∀ (y x : List D), (L.map a1p ++ [y]).set n x = L.map a1p ++ [x] := fun y x => by rw [List.set_append_right _ _ (by simp [-bind_some, hL])]; simp [-bind_some, hL]
   simp only [bs]
   refine c1q q1 ⟨q2, hgn _, by simp [-bind_some, a3f], hne3⟩ fun g5 q4 q5 q6 => ?_
   rw [hsn'] at q5
   simp only [bs]
   refine b8G q4 ⟨q5, hgn _, by simp [-bind_some, a3f], hne3⟩ (u := []) (by rfl) fun g6 q7 q8 q9 => ?_
   rw [hsn'] at q8
   have q8 : g6[ol]? = some (.row a1A 3 (L.map a1p ++ [a1p (a4z s').1])) := q8
   simp only [bs, a0u, hw]
   have hN : N - n = (N - (n + 1)) + 1 := by omega
   rw [hN] at e1 e2
   refine .some (.inl ⟨rfl, kk - 1, by omega, _, _, _, _, ld2, n + 1, L ++ [(a4z s').1], (a4z s').2, rfl, by omega, ⟨?_, q7, fun q hq => ?_, v'.ni, v'.nc⟩, ?_, by simp [-bind_some, hL], ?_, ?_⟩)
   ·rw [q9.2 oi v3.ne (Ne.symm hne3i), q6.2 oi v3.ne (Ne.symm hne3i), q3.2 oi v3.ne (Ne.symm hne3i)]; exact p3
   ·have a1 := v'.nc
    rw [q9.2 q (by omega) (by omega), q6.2 q (by omega) (by omega), q3.2 q (by omega) (by omega)]
    exact v3.lo q hq
   ·refine .inr ⟨ol, hol, ?_, by rw [q8]; simp [-bind_some]⟩
    rw [hld2, hlen3]; simp [-bind_some, hL]
   ·rw [← e1]; simp [-bind_some, a4n]
   ·rw [← e2]; simp [-bind_some, a4n]
  ·intro h1
   have h1 : n = N := by
    have : ¬ (n : Int) < (N : Int) := by simpa using h1
    omega
   subst h1
   rw [Nat.sub_self] at e1 e2
   have f1 : L ++ [] = (a4n n s).1 := e1
   have f2 : s' = (a4n n s).2 := e2
   rw [List.append_nil] at f1
   rw [f2] at v'
   exact .some (.inr ⟨by simp, rfl, _, _, _, _, _, ld, rfl, v', by rw [← f1]; exact ow⟩)
 ·rintro ⟨ex, ds, g'⟩ ⟨rfl, b1, b2, b3, b4, b5, ld, rfl, v', ow⟩
  exact k g' ld b1 b2 b3 b4 b5 v' ow
def a7M : List D := [.str [], .str []]
theorem c2w {n0 oi oc : Nat} {h0 : Hp} {r : Str} {a0 a1 a2 a3 : Int} {a5 a6 : Int} {t7 t8 : Str} {ld : D} {L : List Lin} {g : Hp} {s : Cur} (N : Nat) (hN : N ≤ 1000000000) {pp : D × Hp} (hpp : pp.1 = .int .i64 N) (v : ViS n0 oi oc h0 g (itc r a0 a1 a2 a3 ld a5 a6 t7 t8 .nils) s) (hld : Own g n0 a1A 3 (L.map a1p) ld) (x1 x2 x3 : D) {β : Type} {K : Out → Option β} {Q : β → Prop}
  (k : ∀ g' fd b1 b2 b3 b4, ViS n0 oi oc h0 g' (itc r a0 a1 a2 a3 ld a5 a6 t7 t8 fd) (a4r N s).2 → Own g' n0 a1A 3 (L.map a1p) ld → Own g' n0 a0w 2 ((a4r N s).1.map fld) fd → Wp (K (.ext 4, [b1, b2, b3, b4], g')) Q) : Wp ((a0I (a6L (.iface a3J (.ptr oc 0 0)) (.ptr oi 0 (0 + 1)) pp) [x1, .int .i64 0, x2, x3] g).bind K) Q := by
 refine Wp.loop (fun kk ds g' => ∃ b1 b4 b5 fd, ∃ n : Nat, ∃ M : List (Str × Str), ∃ s' : Cur, ds = [b1, .int .i64 n, b4, b5] ∧ kk + n = N ∧ ViS n0 oi oc h0 g' (itc r a0 a1 a2 a3 ld a5 a6 t7 t8 fd) s' ∧ Own g' n0 a1A 3 (L.map a1p) ld ∧ Own g' n0 a0w 2 (M.map fld) fd ∧ M.length = n ∧ M ++ (a4r (N - n) s').1 = (a4r N s).1 ∧ (a4r (N - n) s').2 = (a4r N s).2)
  (fun r2 => r2.1 = .ext 4 ∧ ∃ b1 b2 b3 b4 fd, r2.2.1 = [b1, b2, b3, b4] ∧ ViS n0 oi oc h0 r2.2.2 (itc r a0 a1 a2 a3 ld a5 a6 t7 t8 fd) (a4r N s).2 ∧ Own r2.2.2 n0 a1A 3 (L.map a1p) ld ∧ Own r2.2.2 n0 a0w 2 ((a4r N s).1.map fld) fd) N ⟨_, _, _, .nils, 0, [], s, rfl, rfl, v, hld, Own.nils _ _ _ _, rfl, by simp, by simp⟩ ?_ ?_
 ·rintro kk ds g' ⟨b1, b4, b5, fd, n, M, s', rfl, hk, v', owL, ow, hL, e1, e2⟩
  simp only [a6L, a0f, a0n, bs, d4X, hpp, a0j]
  refine Wp.dif ?_ ?_
  ·intro h1
   have h1 : n < N := by
    have : (n : Int) < (N : Int) := by simpa using h1
    omega
   have hw := wi_ n (by omega)
   have hll : ((M.map fld).length : Int) = n := by simp [-bind_some, hL]
   have hbz : a1h tab a1c 1 [0] [.agg a7M] = some (.sl 2 true [a7M]) := id rfl
   have hzl : a0X tab a0w [] [] = some (.agg a7M) := id rfl
   simp only [a0x, a5f, (c1N v'.hi).2, c0s ow, hll, bs, a0R, decide_true, a0d, if_true, hzl, hbz, d4X]
   refine b9L (ys := [a7M]) v'.ln ow (a1g _ _ _ _) (by simp; omega) fun fd2 g2 ow2 len2 bel2 old2 _ => ?_
   obtain ⟨dc, c1, c2, c3, c4⟩ := v'.hc
   have hi2 : g2[oi]? = some (.row a0D 11 [itc r a0 a1 a2 a3 ld a5 a6 t7 t8 fd]) := by rw [old2 oi (d5p.1 v'.hi).1 (fun hx => a1V ow v'.hi (by decide) hx rfl)]; exact v'.hi
   have hc2 : g2[oc]? = some (.row a1M 2 [[dc, .bool s'.2]]) := by rw [old2 oc (d5p.1 c1).1 (fun hx => a1V ow c1 (by decide) hx rfl)]; exact c1
   have owL2 : Own g2 n0 a1A 3 (L.map a1p) ld := owL.keep fun q _ hx => old2 q (owL.lt hx).2 (b7k owL ow (by decide) hx)
   simp only [bs]
   refine c2I hi2 (by rfl) (by rw [(a0T (a2a ow2)).1]; rfl) (by simp [-bind_some, itc]) (a0T (a2a ow2)).2 fun g3 p3 s3 => ?_
   rw [(a0T (a2a ow2)).1] at p3
   have p3 : g3[oi]? = some (.row a0D 11 [itc r a0 a1 a2 a3 ld a5 a6 t7 t8 fd2]) := p3
   have hc3 : g3[oc]? = some (.row a1M 2 [[dc, .bool s'.2]]) := by rw [s3.2 oc (Ne.symm v'.ne)]; exact hc2
   have ow3 : Own g3 n0 a0w 2 (M.map fld ++ [a7M]) fd2 := ow2.keep fun q _ hx => s3.2 q (a1V ow2 hi2 (by decide) hx)
   have owL3 : Own g3 n0 a1A 3 (L.map a1p) ld := owL2.keep fun q _ hx => s3.2 q (a1V owL2 hi2 (by decide) hx)
   have v3 : ViS n0 oi oc h0 g3 (itc r a0 a1 a2 a3 ld a5 a6 t7 t8 fd2) s' := ⟨p3, ⟨dc, hc3, c2, c3, c4⟩, fun q hq => by rw [s3.2 q (by have := v'.ni; omega), bel2 q hq]; exact v'.lo q hq, v'.ni, v'.nc⟩
   obtain ⟨ol, hol, hld2, ho3⟩ := a4k ow3 (i := n) (by simp; omega)
   have hlen3 : (M.map fld ++ [a7M]).length = n + 1 := by simp [-bind_some, hL]
   have hrn : (M.map fld ++ [a7M])[n]? = some a7M := by rw [List.getElem?_append_right (by simp [-bind_some, hL])]; simp [-bind_some, hL]
   have hne3 : ol ≠ oc := fun hh => by rw [hh, hc3] at ho3; injection ho3 with ho3; injection ho3 with h2; exact absurd h2 (by decide)
   have hne3i : ol ≠ oi := fun hh => by rw [hh, p3] at ho3; injection ho3 with ho3; injection ho3 with h2; exact absurd h2 (by decide)
   have i0 : (0 : Int) ≤ (n : Int) ∧ (n : Int) < (((M.map fld ++ [a7M]).length : Nat) : Int) := by omega
   have hix : a0b tab a1c fd2 (.int .i64 (n : Int)) = some (.ptr ol n 0) := by rw [hld2, a7R, if_pos i0]; simp [-bind_some]
   simp only [bs, a0o, a0x, a5f, (c1N v3.hi).2, hix, a5J, a9h, c6Z, c7a, a1L, a2P, d4X]
   have hsn : ∀ (x : List D), (M.map fld ++ [a7M]).set n x = M.map fld ++ [x] := fun x => by rw [List.set_append_right _ _ (by simp [-bind_some, hL])]; simp [-bind_some, hL]
   have hgn : ∀ (x : List D), (M.map fld ++ [x])[n]? = some x := fun x => by rw [List.getElem?_append_right (by simp [-bind_some, hL])]; simp [-bind_some, hL]
   have hsn' : ∀ (y x : List D), (M.map fld ++ [y]).set n x = M.map fld ++ [x] := fun y x => by rw [List.set_append_right _ _ (by simp [-bind_some, hL])]; simp [-bind_some, hL]
   refine b8G v3.hc ⟨ho3, hrn, by simp [-bind_some, a7M], hne3⟩ (u := []) (by rfl) fun g4 q1 q2 q3 => ?_
   rw [hsn] at q2
   have hi4 : g4[oi]? = some (.row a0D 11 [itc r a0 a1 a2 a3 ld a5 a6 t7 t8 fd2]) := by rw [q3.2 oi v3.ne (Ne.symm hne3i)]; exact p3
   simp only [bs, (c1N hi4).2, hix, a9h, a0x, a2P]
   refine b8G q1 ⟨q2, hgn _, by simp [-bind_some, a7M], hne3⟩ (u := []) (by rfl) fun g6 q7 q8 q9 => ?_
   rw [hsn'] at q8
   have q8 : g6[ol]? = some (.row a0w 2 (M.map fld ++ [fld (fdS s').1])) := q8
   simp only [bs, a0u, hw]
   have hN : N - n = (N - (n + 1)) + 1 := by omega
   rw [hN] at e1 e2
   have keepL : Own g6 n0 a1A 3 (L.map a1p) ld := by
    have k4 : Own g4 n0 a1A 3 (L.map a1p) ld := owL3.keep fun q _ hx => q3.2 q (a1V owL3 hc3 (by decide) hx) (a1V owL3 ho3 (by decide) hx)
    obtain ⟨dd, y1, _⟩ := q1
    exact k4.keep fun q _ hx => q9.2 q (a1V k4 y1 (by decide) hx) (a1V k4 q2 (by decide) hx)
   refine .some (.inl ⟨rfl, kk - 1, by omega, _, _, _, fd2, n + 1, M ++ [(fdS s').1], (fdS s').2, rfl, by omega, ⟨?_, q7, fun q hq => ?_, v'.ni, v'.nc⟩, keepL, ?_, by simp [-bind_some, hL], ?_, ?_⟩)
   ·rw [q9.2 oi v3.ne (Ne.symm hne3i)]; exact hi4
   ·have a1 := v'.nc
    rw [q9.2 q (by omega) (by omega), q3.2 q (by omega) (by omega)]
    exact v3.lo q hq
   ·refine .inr ⟨ol, hol, ?_, by rw [q8]; simp [-bind_some]⟩
    rw [hld2, hlen3]; simp [-bind_some, hL]
   ·rw [← e1]; simp [-bind_some, a4r]
   ·rw [← e2]; simp [-bind_some, a4r]
  ·intro h1
   have h1 : n = N := by
    have : ¬ (n : Int) < (N : Int) := by simpa using h1
    omega
   subst h1
   rw [Nat.sub_self] at e1 e2
   have f1 : M ++ [] = (a4r n s).1 := e1
   have f2 : s' = (a4r n s).2 := e2
   rw [List.append_nil] at f1
   rw [f2] at v'
   exact .some (.inr ⟨by simp, rfl, _, _, _, _, fd, rfl, v', owL, by rw [← f1]; exact ow⟩)
 ·rintro ⟨ex, ds, g'⟩ ⟨rfl, b1, b2, b3, b4, fd, rfl, v', owL, ow⟩
  exact k g' fd b1 b2 b3 b4 v' owL ow
structure RI where
 r : Str
 a0 : Int
 a1 : Int
 a2 : Int
 a3 : Int
 ls : List Lin
 a5 : Int
 a6 : Int
 t7 : Str
 t8 : Str
 fs : List (Str × Str)
def a3M (s : Cur) : Cur := (a1k (a1k (a1k (a1k (a0O s).2).2).2).2).2
def a6F (s : Cur) : Cur := (a4n (a0P (a3M s)).1.toNat (a0P (a3M s)).2).2
def a6a (s : Cur) : Cur := (a0O (a0O (a1k (a1k (a6F s)).2).2).2).2
def a1O (s : Cur) : RI :=
 { r := (a0O s).1.getD [], a0 := (a1k (a0O s).2).1, a1 := (a1k (a1k (a0O s).2).2).1, a2 := (a1k (a1k (a1k (a0O s).2).2).2).1, a3 := (a1k (a1k (a1k (a1k (a0O s).2).2).2).2).1,
   ls := (a4n (a0P (a3M s)).1.toNat (a0P (a3M s)).2).1, a5 := (a1k (a6F s)).1, a6 := (a1k (a1k (a6F s)).2).1, t7 := (a0O (a1k (a1k (a6F s)).2).2).1.getD [], t8 := (a0O (a0O (a1k (a1k (a6F s)).2).2).2).1.getD [],
   fs := (a4r (a0P (a6a s)).1.toNat (a0P (a6a s)).2).1 }
def a6G (s : Cur) : Cur := (a4r (a0P (a6a s)).1.toNat (a0P (a6a s)).2).2
def RI.row (x : RI) (ld fd : D) : List D := itc x.r x.a0 x.a1 x.a2 x.a3 ld x.a5 x.a6 x.t7 x.t8 fd
theorem d2c {n0 oi oc : Nat} {h0 g : Hp} {s : Cur} (v : ViS n0 oi oc h0 g (itc [] 0 0 0 0 .nils 0 0 [] [] .nils) s) {β : Type} {f : D × Hp → Option β} {Q : β → Prop}
  (k : ∀ g2 ld fd, ViS n0 oi oc h0 g2 ((a1O s).row ld fd) (a6G s) → Own g2 n0 a1A 3 ((a1O s).ls.map a1p) ld → Own g2 n0 a0w 2 ((a1O s).fs.map fld) fd → Wp (f (a0i [], g2)) Q) : Wp ((R b0y [.iface a3J (.ptr oc 0 0), .ptr oi 0 0] g).bind f) Q := by
 rw [c4P]
 simp only [c1d, bs, d4X, a0x, b1w, a7p, c7a, c6Z, d1c, a2P, a1L, a3W, b1u, b1v, a9i, a9j]
 refine c2A v 0 (u := []) (by rfl) fun g1 v1 _ => ?_
 have v1 : ViS n0 oi oc h0 g1 (itc (a1O s).r 0 0 0 0 .nils 0 0 [] [] .nils) (a0O s).2 := v1
 simp only [bs, b2F (.ptr oi 0 (0 + 1 + 0)) (.ptr oi 0 (0 + 1 + 1)) (.ptr oi 0 (0 + 1 + 2)) (.ptr oi 0 (0 + 1 + 3)) rfl rfl rfl rfl, show ([[.ptr oi 0 (0 + 1 + 0)], [.ptr oi 0 (0 + 1 + 1)], [.ptr oi 0 (0 + 1 + 2)], [.ptr oi 0 (0 + 1 + 3)]] : List (List D)) = pl4 oi from rfl, b6D, show (pl4 oi).length = 4 from rfl]
 refine Wp.loop (fun kk ds g' => ∃ a b, ∃ n : Nat, ds = [a, .int .i64 n, b] ∧ kk + n = 4 ∧ ((n = 0 ∧ ViS n0 oi oc h0 g' (itc (a1O s).r 0 0 0 0 .nils 0 0 [] [] .nils) (a0O s).2) ∨ (n = 1 ∧ ViS n0 oi oc h0 g' (itc (a1O s).r (a1O s).a0 0 0 0 .nils 0 0 [] [] .nils) (a1k (a0O s).2).2) ∨
   (n = 2 ∧ ViS n0 oi oc h0 g' (itc (a1O s).r (a1O s).a0 (a1O s).a1 0 0 .nils 0 0 [] [] .nils) (a1k (a1k (a0O s).2).2).2) ∨ (n = 3 ∧ ViS n0 oi oc h0 g' (itc (a1O s).r (a1O s).a0 (a1O s).a1 (a1O s).a2 0 .nils 0 0 [] [] .nils) (a1k (a1k (a1k (a0O s).2).2).2).2) ∨
   (n = 4 ∧ ViS n0 oi oc h0 g' (itc (a1O s).r (a1O s).a0 (a1O s).a1 (a1O s).a2 (a1O s).a3 .nils 0 0 [] [] .nils) (a3M s))))
  (fun r => r.1 = .ext 0 ∧ (∃ a b c, r.2.1 = [a, b, c]) ∧ ViS n0 oi oc h0 r.2.2 (itc (a1O s).r (a1O s).a0 (a1O s).a1 (a1O s).a2 (a1O s).a3 .nils 0 0 [] [] .nils) (a3M s)) 4 ⟨_, _, 0, rfl, rfl, .inl ⟨rfl, v1⟩⟩ ?_ ?_
 ·rintro kk ds g' ⟨a, b, n, rfl, hk, hv⟩
  simp only [a8S, a0f, a0n, bs, d4X, a0j]
  have ix : ∀ j : Nat, j < 4 → a0b tab a5Z (.sl 1 true (pl4 oi)) (.int .i64 j) = some (.fptr [.ptr oi 0 (0 + 1 + j)]) := fun j hj => by
   have : j = 0 ∨ j = 1 ∨ j = 2 ∨ j = 3 := by omega
   rcases this with rfl | rfl | rfl | rfl <;> (rw [b0H]; rfl)
  rcases hv with ⟨rfl, v'⟩ | ⟨rfl, v'⟩ | ⟨rfl, v'⟩ | ⟨rfl, v'⟩ | ⟨rfl, v'⟩
  ·simp only [show decide (((0 : Nat) : Int) < ((4 : Nat) : Int)) = true from rfl, a0d, if_true, ix 0 (by omega), b0J, bs, a1L]
   refine c2W v' (0 + 1 + 0) (by simp [-bind_some, itc]) fun g2 v2 _ => ?_
   simp only [bs, a0u]
   exact .some (.inl ⟨rfl, 3, by omega, _, _, 1, rfl, rfl, .inr (.inl ⟨rfl, v2⟩)⟩)
  ·simp only [show decide (((1 : Nat) : Int) < ((4 : Nat) : Int)) = true from rfl, a0d, if_true, ix 1 (by omega), b0J, bs, a1L]
   refine c2W v' (0 + 1 + 1) (by simp [-bind_some, itc]) fun g2 v2 _ => ?_
   simp only [bs, a0u]
   exact .some (.inl ⟨rfl, 2, by omega, _, _, 2, rfl, rfl, .inr (.inr (.inl ⟨rfl, v2⟩))⟩)
  ·simp only [show decide (((2 : Nat) : Int) < ((4 : Nat) : Int)) = true from rfl, a0d, if_true, ix 2 (by omega), b0J, bs, a1L]
   refine c2W v' (0 + 1 + 2) (by simp [-bind_some, itc]) fun g2 v2 _ => ?_
   simp only [bs, a0u]
   exact .some (.inl ⟨rfl, 1, by omega, _, _, 3, rfl, rfl, .inr (.inr (.inr (.inl ⟨rfl, v2⟩)))⟩)
  ·simp only [show decide (((3 : Nat) : Int) < ((4 : Nat) : Int)) = true from rfl, a0d, if_true, ix 3 (by omega), b0J, bs, a1L]
   refine c2W v' (0 + 1 + 3) (by simp [-bind_some, itc]) fun g2 v2 _ => ?_
   simp only [bs, a0u]
   exact .some (.inl ⟨rfl, 0, by omega, _, _, 4, rfl, rfl, .inr (.inr (.inr (.inr ⟨rfl, v2⟩)))⟩)
  ·simp only [show decide (((4 : Nat) : Int) < ((4 : Nat) : Int)) = false from rfl, a0d, d4Y, if_false]
   exact .some (.inr ⟨by simp, rfl, ⟨_, _, _, rfl⟩, v'⟩)
 rintro ⟨ex, ds, g2⟩ ⟨rfl, ⟨a, b, c, rfl⟩, v2⟩
 have v2 : ViS n0 oi oc h0 g2 (itc (a1O s).r (a1O s).a0 (a1O s).a1 (a1O s).a2 (a1O s).a3 .nils 0 0 [] [] .nils) (a3M s) := v2
 simp only [a0l, a0o, bs, d4X, a0x, a3t, (c1N v2.hi).1, c5u, d1c, a3W]
 have hcr := a6u v2.hc
 refine c0P v2 _ fun g3 v3 _ => ?_
 obtain ⟨N, hN⟩ : ∃ N : Nat, (a0P (a3M s)).1 = N := ⟨(a0P (a3M s)).1.toNat, by omega⟩
 have hNt : (a0P (a3M s)).1.toNat = N := by omega
 simp only [bs]
 refine c6y N (by omega) (by rw [hN]) v3 rfl _ _ _ _ fun g4 ld b1 b2 b3 b4 b5 v4 ow4 => ?_
 have hB : (a4n N (a0P (a3M s)).2).2 = a6F s := by unfold a6F; rw [hNt]
 have hL : (a4n N (a0P (a3M s)).2).1 = (a1O s).ls := by unfold a1O; simp only [hNt]
 rw [hB] at v4
 rw [hL] at ow4
 simp only [a0l, a0o, bs, d4X, a0x, a9k, a9l, a9m, a9n, a5f, c6Z, c7a, d1c, a1L, a2P, a3W]
 have keep : ∀ {g g' : Hp} {row : List D} {s' : Cur}, Own g n0 a1A 3 ((a1O s).ls.map a1p) ld → ViS n0 oi oc h0 g row s' → Wrt g g' oc oi → Own g' n0 a1A 3 ((a1O s).ls.map a1p) ld := fun ow v w => by
  obtain ⟨d, h1, _⟩ := v.hc
  exact Own.wrt ow w h1 v.hi (by decide) (by decide)
 refine c2W v4 (0 + 1 + 5) (by simp [-bind_some, itc]) fun g5 v5 w5 => ?_
 have ow5 := keep ow4 v4 w5
 have v5 : ViS n0 oi oc h0 g5 (itc (a1O s).r (a1O s).a0 (a1O s).a1 (a1O s).a2 (a1O s).a3 ld (a1O s).a5 0 [] [] .nils) (a1k (a6F s)).2 := v5
 simp only [bs]
 refine c2W v5 (0 + 1 + 6) (by simp [-bind_some, itc]) fun g6 v6 w6 => ?_
 have ow6 := keep ow5 v5 w6
 have v6 : ViS n0 oi oc h0 g6 (itc (a1O s).r (a1O s).a0 (a1O s).a1 (a1O s).a2 (a1O s).a3 ld (a1O s).a5 (a1O s).a6 [] [] .nils) (a1k (a1k (a6F s)).2).2 := v6
 simp only [bs]
 refine c2A v6 (0 + 1 + 7) (u := []) (by rfl) fun g7 v7 w7 => ?_
 have ow7 := keep ow6 v6 w7
 have v7 : ViS n0 oi oc h0 g7 (itc (a1O s).r (a1O s).a0 (a1O s).a1 (a1O s).a2 (a1O s).a3 ld (a1O s).a5 (a1O s).a6 (a1O s).t7 [] .nils) (a0O (a1k (a1k (a6F s)).2).2).2 := v7
 simp only [bs]
 refine c2A v7 (0 + 1 + 8) (u := []) (by rfl) fun g8 v8 w8 => ?_
 have ow8 := keep ow7 v7 w8
 have v8 : ViS n0 oi oc h0 g8 (itc (a1O s).r (a1O s).a0 (a1O s).a1 (a1O s).a2 (a1O s).a3 ld (a1O s).a5 (a1O s).a6 (a1O s).t7 (a1O s).t8 .nils) (a6a s) := v8
 simp only [bs, (c1N v8.hi).2, c5v]
 have hcr2 := a6u v8.hc
 refine c0P v8 _ fun g9 v9 w9 => ?_
 have ow9 := keep ow8 v8 w9
 obtain ⟨M, hM⟩ : ∃ M : Nat, (a0P (a6a s)).1 = M := ⟨(a0P (a6a s)).1.toNat, by omega⟩
 have hMt : (a0P (a6a s)).1.toNat = M := by omega
 simp only [bs]
 refine c2w M (by omega) (by rw [hM]) v9 ow9 _ _ _ fun g10 fd b1 b2 b3 b4 v10 owL owF => ?_
 have hE : (a4r M (a0P (a6a s)).2).2 = a6G s := by unfold a6G; rw [hMt]
 have hF : (a4r M (a0P (a6a s)).2).1 = (a1O s).fs := by unfold a1O; simp only [hMt]
 rw [hE] at v10
 rw [hF] at owF
 simp only [a0l, a2E, bs, d4X]
 exact k g10 ld fd v10 owL owF
theorem a9A (z : Int) (l : List Int) : num (z :: l) = z * 256 ^ l.length + num l := by
 have key : ∀ (l : List Int) (c : Int), l.foldl (fun v b => v * 256 + b) c = c * 256 ^ l.length + l.foldl (fun v b => v * 256 + b) 0 := by
  intro l
  induction l with
  | nil => intro c; simp [-bind_some]
  | cons a r ih =>
   intro c
   simp only [List.foldl_cons, d5q]
   rw [ih (c * 256 + a), ih (0 * 256 + a), Int.pow_succ]
   generalize (256 : Int) ^ r.length = P
   generalize List.foldl (fun v b => v * 256 + b) 0 r = F
   simp only [Int.add_mul, Int.zero_mul, Int.zero_add]
   rw [Int.mul_assoc, Int.mul_comm 256 P, Int.add_assoc]
 unfold num
 simp only [List.foldl_cons]
 rw [key l (0 * 256 + z)]
 simp [-bind_some]
theorem b3A : ∀ (k : Nat) (v : Int), 0 ≤ v → num (a4l k v) = v % 256 ^ k
 | 0, v, _ => by simp [-bind_some, a4l, num]
 | k + 1, v, h => by
  simp only [a4l]
  rw [a9A, a1e, b3A k v h, a6Z]
  have hP : (2 : Int) ^ (8 * k) = 256 ^ k := by rw [Int.pow_mul]; rfl
  rw [hP]
  have hpos : (0 : Int) < 256 ^ k := Int.pow_pos (by omega)
  rw [Int.fdiv_eq_ediv_of_nonneg _ (by omega)]
  rw [Int.pow_succ]
  generalize (256 : Int) ^ k = P at hpos
  have h1 := Int.mul_ediv_add_emod v P
  have h2 := Int.mul_ediv_add_emod (v / P) 256
  have h3 := Int.emod_nonneg v (show P ≠ 0 by omega)
  have h4 := Int.emod_lt_of_pos v hpos
  have h5 := Int.emod_nonneg (v / P) (show (256 : Int) ≠ 0 by omega)
  have h6 := Int.emod_lt_of_pos (v / P) (show (0 : Int) < 256 by omega)
  generalize v % P = r at *
  generalize hq : v / P = q at *
  generalize q % 256 = s at *
  generalize q / 256 = t at *
  have e : v = (s * P + r) + (P * 256) * t := by
   rw [← h1, ← h2]
   simp only [Int.mul_add, Int.add_mul]
   rw [Int.mul_comm P s, ← Int.mul_assoc P 256 t]
   omega
  rw [e, Int.add_mul_emod_self_left]
  have hsP : s * P + P ≤ P * 256 := by
   have : (s + 1) * P ≤ 256 * P := Int.mul_le_mul_of_nonneg_right (by omega) (by omega)
   rw [Int.add_mul, Int.one_mul, Int.mul_comm 256 P] at this
   exact this
  have hs0 : 0 ≤ s * P := Int.mul_nonneg h5 (by omega)
  exact (Int.emod_eq_of_lt (by omega) (by omega)).symm
def I64 (n : Int) : Prop := -9223372036854775808 ≤ n ∧ n < 9223372036854775808
theorem b8m (n : Int) : IntKind.wrap .u64 n = n % 18446744073709551616 := by
 unfold IntKind.wrap
 simp [-bind_some, IntKind.signed, IntKind.bits, IntKind.min, IntKind.max]
theorem b0Q : (256 : Int) ^ 4 = 4294967296 := by decide
theorem c0w {n : Nat} (h : n < 4294967296) : num (pN n) = n := by
 unfold pN
 rw [a1j (by omega) (by omega), b3A 4 _ (by omega), b0Q]
 omega
structure LnR (l : Lin) : Prop where
 o : I64 l.off
 n : I64 l.len
 t : l.txt.length < 4294967296
structure ItR (i : It) : Prop where
 r : i.r.length < 4294967296
 a0 : I64 i.e.a0
 a1 : I64 i.e.a1
 a2 : I64 i.e.a2
 a3 : I64 i.e.a3
 nl : i.e.ls.length < 4294967296
 ls : ∀ l ∈ i.e.ls, LnR l
 a5 : I64 i.e.a5
 a6 : I64 i.e.a6
 t7 : i.e.s7.length < 4294967296
 t8 : i.e.s8.length < 4294967296
 nf : i.e.fs.length < 4294967296
 fs : ∀ p ∈ i.e.fs, p.1.length < 4294967296 ∧ p.2.length < 4294967296
def a2S (i : It) : RI := ⟨i.r, i.e.a0, i.e.a1, i.e.a2, i.e.a3, i.e.ls, i.e.a5, i.e.a6, i.e.s7, i.e.s8, i.e.fs⟩
theorem b3H {h : Hp} {n1 e z : Nat} {α : Type} {f : α → List D} {l : List α} {d : D} {n : Nat} (hd : Own h n1 e z (l.map f) d) (hr : ∀ a ∈ l, ∀ d ∈ f a, b1W h n d = d) : SlOf z f l (b1W h (n + 1) d) := by
 rcases hd with ⟨rfl, hn⟩ | ⟨o, ho, rfl, hg⟩
 ·exact .inl ⟨rfl, by simpa using hn⟩
 ·refine .inr ⟨false, ?_⟩
  simp only [b1W, hg, List.drop_zero]
  rw [List.take_of_length_le (by simp)]
  congr 1
  rw [List.map_map]
  refine List.map_congr_left fun a ha => ?_
  simp only [Function.comp]
  conv => rhs; rw [← List.map_id (f a)]
  exact List.map_congr_left fun d hd => hr a ha d hd
theorem b6J (h : Hp) (n : Nat) (l : Lin) : ∀ d ∈ a1p l, b1W h n d = d := by
 intro d hd
 simp only [a1p, d5u, List.not_mem_nil, or_false] at hd
 cases n <;> rcases hd with rfl | rfl | rfl <;> rfl
theorem b9f (h : Hp) (n : Nat) (p : Str × Str) : ∀ d ∈ fld p, b1W h n d = d := by
 intro d hd
 simp only [fld, d5u, List.not_mem_nil, or_false] at hd
 cases n <;> rcases hd with rfl | rfl <;> rfl
theorem a9J (s : Cur) (n : Int) : (a0N s n).2.1.length ≤ s.1.length := by
 unfold a0N
 split
 ·exact Nat.le_refl _
 ·simp [-bind_some]
theorem a3u (s : Cur) : (a1k s).2.1.length ≤ s.1.length := a9J s 8
theorem a7B (s : Cur) : (a1B s).2.1.length ≤ s.1.length := a9J s 4
theorem a3o (s : Cur) : (a0O s).2.1.length ≤ s.1.length := by
 have h1 := a9J (a1B s).2 (a1B s).1
 have h2 := a7B s
 unfold a0O
 split
 ·simp only; omega
 ·simp only; omega
theorem a7f (s : Cur) : (a0P s).1.toNat ≤ s.1.length ∧ (a0P s).2.1.length ≤ s.1.length := by
 have h2 := a7B s
 unfold a0P
 split
 ·exact ⟨by simp, h2⟩
 ·rename_i hh
  refine ⟨?_, h2⟩
  have h3 : ¬ ((a1B s).2.1.length : Int).tdiv 8 < (a1B s).1 := fun hx => hh (.inr hx)
  rw [Int.tdiv_eq_ediv_of_nonneg (by omega)] at h3
  omega
theorem b6H (s : Cur) : (a4z s).2.1.length ≤ s.1.length := by
 have h1 := a3u s
 have h2 := a3u (a1k s).2
 have h3 := a3o (a1k (a1k s).2).2
 unfold a4z
 simp only
 omega
theorem b1I : ∀ (n : Nat) (s : Cur), (a4n n s).1.length = n ∧ (a4n n s).2.1.length ≤ s.1.length
 | 0, s => ⟨rfl, Nat.le_refl _⟩
 | n + 1, s => by
  have h1 := b1I n (a4z s).2
  have h2 := b6H s
  exact ⟨by simp [-bind_some, a4n, h1.1], Nat.le_trans h1.2 h2⟩
theorem b2R : ∀ (n : Nat) (s : Cur), (a4r n s).1.length = n
 | 0, s => rfl
 | n + 1, s => by simp [-bind_some, a4r, b2R n]
theorem b1Z (s : Cur) : (a3M s).1.length ≤ s.1.length := by
 have h0 := a3o s
 have h1 := a3u (a0O s).2
 have h2 := a3u (a1k (a0O s).2).2
 have h3 := a3u (a1k (a1k (a0O s).2).2).2
 have h4 := a3u (a1k (a1k (a1k (a0O s).2).2).2).2
 unfold a3M
 omega
theorem c2x (s : Cur) : (a6a s).1.length ≤ s.1.length := by
 have h0 := b1Z s
 have h1 := (a7f (a3M s)).2
 have h2 := (b1I (a0P (a3M s)).1.toNat (a0P (a3M s)).2).2
 have hB : (a6F s).1.length ≤ s.1.length := by unfold a6F; omega
 have h3 := a3u (a6F s)
 have h4 := a3u (a1k (a6F s)).2
 have h5 := a3o (a1k (a1k (a6F s)).2).2
 have h6 := a3o (a0O (a1k (a1k (a6F s)).2).2).2
 unfold a6a
 omega
theorem b9K (s : Cur) : (a1O s).ls.length ≤ s.1.length ∧ (a1O s).fs.length ≤ s.1.length := by
 have h0 := b1Z s
 have h1 := (a7f (a3M s)).1
 have h2 := (b1I (a0P (a3M s)).1.toNat (a0P (a3M s)).2).1
 have h3 := c2x s
 have h4 := (a7f (a6a s)).1
 have h5 := b2R (a0P (a6a s)).1.toNat (a0P (a6a s)).2
 refine ⟨?_, ?_⟩
 ·show (a4n (a0P (a3M s)).1.toNat (a0P (a3M s)).2).1.length ≤ _
  omega
 ·show (a4r (a0P (a6a s)).1.toNat (a0P (a6a s)).2).1.length ≤ _
  omega
def c5B (x : RI) (ld fd : D) (h1 : SlOf 3 a1p x.ls ld) (h2 : SlOf 2 fld x.fs fd) (h3 : x.ls.length ≤ 9223372036854775807) (h4 : x.fs.length ≤ 9223372036854775807) : It := ⟨x.r, ⟨x.a0, x.a1, x.a2, x.a3, x.ls, ld, x.a5, x.a6, x.t7, x.t8, x.fs, fd, h2, h4, h1, h3⟩⟩
theorem c2c (x : RI) (ld fd : D) (h1 : SlOf 3 a1p x.ls ld) (h2 : SlOf 2 fld x.fs fd) (h3 : x.ls.length ≤ 9223372036854775807) (h4 : x.fs.length ≤ 9223372036854775807) : a2S (c5B x ld fd h1 h2 h3 h4) = x := rfl
def a6b (c : Int) (l : List Int) : Int × Int × RI :=
 if l.length < 4 then (14, 0, ⟨[], 0, 0, 0, 0, [], 0, 0, [], [], []⟩)
 else if num (l.take 4) < 4 ∨ (l.length : Int) - 4 < num (l.take 4) then (14, 0, ⟨[], 0, 0, 0, 0, [], 0, 0, [], [], []⟩)
 else if a3K (l.take (num (l.take 4)).toNat) ≠ num ((l.drop (num (l.take 4)).toNat).take 4) then (15, 0, ⟨[], 0, 0, 0, 0, [], 0, 0, [], [], []⟩)
 else if (a6G ((l.take (num (l.take 4)).toNat).drop 4, false)).2 = true ∨ 0 < (a6G ((l.take (num (l.take 4)).toNat).drop 4, false)).1.length ∨ c ≠ 0 then (1, 0, ⟨[], 0, 0, 0, 0, [], 0, 0, [], [], []⟩)
 else (0, 4 + num (l.take 4), a1O ((l.take (num (l.take 4)).toNat).drop 4, false))
def zit : It := ⟨[], ⟨0, 0, 0, 0, [], .nils, 0, 0, [], [], [], .nils, SlOf.nils _ _, by simp, SlOf.nils _ _, by simp⟩⟩
theorem a3r : a2S zit = ⟨[], 0, 0, 0, 0, [], 0, 0, [], [], []⟩ := rfl
theorem b5p {h g : Hp} {a b : Int} {j : It} (hl : h.length ≤ g.length) (hb : ∀ q, q < h.length → g[q]? = h[q]?) : scope h g (.tup [.agg (itr j), .int .i64 a, .int .i64 b]) = some (.tup [.agg (itr j), .int .i64 a, .int .i64 b], h) := by
 refine a1i ?_ ?_ hl hb
 ·have h1 : (itr j).map (frz h.length g 2) = itr j := by
    conv => rhs; rw [← List.map_id (itr j)]
    exact List.map_congr_left fun d hd => a7y _ g 1 j d hd
  show D.tup [D.agg ((itr j).map (frz h.length g 2)), .int .i64 a, .int .i64 b] = _
  rw [h1]
 ·refine .tup _ fun d hd => ?_
  simp at hd
  rcases hd with rfl | rfl | rfl
  ·exact b0G _ j
  ·constructor
  ·constructor
theorem b1M (a b c : D) : a0i [a, b, c] = .tup [a, b, c] := rfl
theorem d1C (l : List Int) (d : D) (c : Int) (h : Hp) (hd : SlOf 1 byr l d) (hl : l.length ≤ 1000000000) (hu : ∀ z ∈ l, U8 z)
  (hck : ∀ j : It, a2S j = a1O ((l.take (num (l.take 4)).toNat).drop 4, false) → ∀ g, R a5P [.agg (itr j)] g = some (.int .i64 c, g)) :
  ∃ j : It, R b0w [d] h = some (.tup [.agg (itr j), .int .i64 (a6b c l).2.1, .int .i64 (a6b c l).1], h) ∧ a2S j = (a6b c l).2.2 := by
 suffices Wp (R b0w [d] h) (fun p => p.2 = h ∧ ∃ j : It, p.1 = .tup [.agg (itr j), .int .i64 (a6b c l).2.1, .int .i64 (a6b c l).1] ∧ a2S j = (a6b c l).2.2) by
  obtain ⟨⟨x, h'⟩, h1, rfl, j, rfl, h2⟩ := this
  exact ⟨j, h1, h2⟩
 have hz74 : ([.str [], .int .i64 0, .int .i64 0, .int .i64 0, .int .i64 0, .nils, .int .i64 0, .int .i64 0, .str [], .str [], .nils] : List D) = itr zit := rfl
 have hbz : a0X tab a0D [] [] = some (.agg (itr zit)) := id rfl
 -- a way out with an error: the result's variable is stored to and read
 have out : ∀ (g : Hp) (row : List D) (a b : Int), g[h.length]? = some (.row a0D 11 [row]) → row.length = 11 → h.length ≤ g.length → (∀ q, q < h.length → g[q]? = h[q]?) → (a, b, a2S zit) = ((a6b c l).2.1, (a6b c l).1, (a6b c l).2.2) →
   Wp ((a0h tab g a0D (.ptr h.length 0 0) (.agg (itr zit))).bind fun h' => (a0c tab h' a0D (.ptr h.length 0 0)).bind fun d => scope h h' (a0i [d, .int .i64 a, .int .i64 b])) (fun p => p.2 = h ∧ ∃ j : It, p.1 = .tup [.agg (itr j), .int .i64 (a6b c l).2.1, .int .i64 (a6b c l).1] ∧ a2S j = (a6b c l).2.2) := by
  intro g row a b hg hr hgl hgb he
  injection he with he1 he2
  injection he2 with he2 he3
  refine b1e hg (by rfl) (by rfl) (by rw [hr]; exact Nat.le_refl _) (by rfl) fun g' h' s' => ?_
  have h' : g'[h.length]? = some (.row a0D 11 [itr zit]) := by
   rw [h']
   have hs : spl row 0 (a0z (.agg (itr zit))) = itr zit := by
    have h11 : (itr zit).length = 11 := rfl
    simp [-bind_some, spl, a0z, hr, h11]
   rw [hs]; rfl
  have ld : a0c tab g' a0D (.ptr h.length 0 0) = some (.agg (itr zit)) := by rw [b0M, a0V h']; rfl
  rw [ld]
  simp only [bs, b1M]
  rw [b5p (by rw [s'.1]; exact hgl) (fun q hq => by rw [s'.2 q (by omega)]; exact hgb q hq)]
  exact .some ⟨rfl, zit, by rw [he1, he2], he3⟩
 rw [c8y]
 simp only [c3T, hz74, bs, d4X, a1l hd, a0j, hbz]
 have hp2 : (a0F h a0D 11 [itr zit])[h.length]? = some (.row a0D 11 [itr zit]) := a1q _ _ _ _
 have hq2 : ∀ q, q < h.length → (a0F h a0D 11 [itr zit])[q]? = h[q]? := fun q hq => a0U _ _ _ _ hq
 have hl2 : (a0F h a0D 11 [itr zit]).length = h.length + 1 := by simp [-bind_some, a0F]
 generalize a0F h a0D 11 [itr zit] = g1 at *
 refine Wp.dif ?_ ?_
 ·intro h0
  have h0 : l.length < 4 := by
   have : (l.length : Int) < 4 := by simpa using h0
   omega
  have hz : a6b c l = (14, 0, ⟨[], 0, 0, 0, 0, [], 0, 0, [], [], []⟩) := by unfold a6b; rw [if_pos h0]
  exact out g1 _ 0 14 hp2 rfl (by omega) hq2 (by rw [hz, a3r])
 intro h0
 have h0 : ¬ l.length < 4 := by
  have : ¬ (l.length : Int) < 4 := by simpa using h0
  omega
 obtain ⟨d4, e4, s4'⟩ := b4B hd (k := .i64) (n := 4) (by omega) (by omega)
 have s4' : SlOf 1 byr (l.take 4) d4 := s4'
 have hl4 : (l.take 4).length = 4 := by simp; omega
 have hu4 : ∀ z ∈ l.take 4, U8 z := fun z hz => hu z (List.mem_of_mem_take hz)
 have e14 := b9z _ d4 g1 s4' (by omega) hu4
 obtain ⟨n0, n1⟩ := a2m 4 _ hl4 hu4
 rw [b0Q] at n1
 have w5 : IntKind.wrap .i64 (num (l.take 4)) = num (l.take 4) := wrap_i64 (by omega) (by omega)
 have w6 : IntKind.wrap .i64 ((l.length : Int) - 4) = (l.length : Int) - 4 := wrap_i64 (by omega) (by omega)
 generalize hN : num (l.take 4) = N at *
 obtain ⟨n, rfl⟩ := Int.eq_ofNat_of_zero_le n0
 simp only [d5h] at hck
 simp only [bs, e4, e14, a2T, w5, a0j, a0r]
 by_cases hbad : (n : Int) < 4 ∨ (l.length : Int) - 4 < (n : Int)
 ·have hz : a6b c l = (14, 0, ⟨[], 0, 0, 0, 0, [], 0, 0, [], [], []⟩) := by unfold a6b; rw [if_neg h0, hN, if_pos hbad]
  by_cases c1 : (n : Int) < 4
  ·simp only [c1, decide_true, reduceCtorEq, d4Z, if_false, bs, a0e, if_true, a0d]
   exact out g1 _ 0 14 hp2 rfl (by omega) hq2 (by rw [hz, a3r])
  ·have c2 : (n : Int) > (l.length : Int) - 4 := by omega
   simp only [c1, decide_false, if_true, bs, a1l hd, a0B, w6, a0v, c2, decide_true, reduceCtorEq, d4Z, d4Y, if_false, a0e, a0d]
   exact out g1 _ 0 14 hp2 rfl (by omega) hq2 (by rw [hz, a3r])
 have c1 : ¬ (n : Int) < 4 := by omega
 have c2 : ¬ (n : Int) > (l.length : Int) - 4 := by omega
 simp only [c1, decide_false, if_true, bs, a1l hd, a0B, w6, a0v, c2, reduceCtorEq, d4Z, d4Y, if_false, a0e, a0d]
 obtain ⟨dn, en, sn⟩ := b4B hd (k := .i64) (n := (n : Int)) (by omega) (by omega)
 rw [d5h] at sn
 have e29 := c6l (l.take n) dn g1 (.inl sn) (by simp; omega) (fun z hz => hu z (List.mem_of_mem_take hz))
 have w7 : IntKind.wrap .i64 ((n : Int) + 4) = ((n + 4 : Nat) : Int) := by rw [wrap_i64 (by omega) (by omega)]; omega
 obtain ⟨dc, ec, sc⟩ := a7h hd n (n + 4) (by omega) (by omega)
 have lc : (l.take (n + 4)).drop n = (l.drop n).take 4 := by rw [List.drop_take]; congr 1; omega
 rw [lc] at sc
 have e35 := b9z _ dc g1 sc (by simp; omega) (fun z hz => hu z (List.mem_of_mem_drop (List.mem_of_mem_take hz)))
 simp only [en, e29, a0u, w7, ec, e35, bs, a0t]
 refine Wp.dif ?_ ?_
 ·intro h1
  have h1 : a3K (l.take n) ≠ num ((l.drop n).take 4) := by simpa using h1
  have hz : a6b c l = (15, 0, ⟨[], 0, 0, 0, 0, [], 0, 0, [], [], []⟩) := by unfold a6b; rw [if_neg h0, hN, if_neg hbad]; simp only [d5h]; rw [if_pos h1]
  exact out g1 _ 0 15 hp2 rfl (by omega) hq2 (by rw [hz, a3r])
 intro h1
 have h1 : ¬ a3K (l.take n) ≠ num ((l.drop n).take 4) := by simpa using h1
 obtain ⟨db, eb, sb⟩ := a7h hd 4 n (by omega) (by omega)
 have eb : a0G tab a0H true true false [d, .int .i64 4, .int .i64 n] = some db := eb
 have hp6 : (a0F g1 a0D 11 [itr zit])[h.length + 1]? = some (.row a0D 11 [itr zit]) := by rw [← hl2]; exact a1q _ _ _ _
 have hp62 : (a0F g1 a0D 11 [itr zit])[h.length]? = some (.row a0D 11 [itr zit]) := by rw [a0U _ _ _ _ (by omega)]; exact hp2
 have hl6 : (a0F g1 a0D 11 [itr zit]).length = h.length + 2 := by simp [-bind_some, a0F, hl2]
 have hq6 : ∀ q, q < h.length → (a0F g1 a0D 11 [itr zit])[q]? = h[q]? := fun q hq => by rw [a0U _ _ _ _ (by omega)]; exact hq2 q hq
 simp only [bs, hl2]
 generalize a0F g1 a0D 11 [itr zit] = g2 at *
 have hbc : a0X tab a1M [0] [db] = some (.agg [db, .bool false]) := b8z db (a1z sb)
 simp only [eb, hbc, bs, a2W a1M 2 g2 [db, .bool false] rfl (by omega), hl6]
 have hc0 : (a0F g2 a1M 2 [[db, .bool false]])[h.length + 2]? = some (.row a1M 2 [[db, .bool false]]) := by rw [← hl6]; exact a1q _ _ _ _
 have hi0 : (a0F g2 a1M 2 [[db, .bool false]])[h.length + 1]? = some (.row a0D 11 [itr zit]) := by rw [a0U _ _ _ _ (by omega)]; exact hp6
 have hr0 : (a0F g2 a1M 2 [[db, .bool false]])[h.length]? = some (.row a0D 11 [itr zit]) := by rw [a0U _ _ _ _ (by omega)]; exact hp62
 have hq0 : ∀ q, q < h.length + 1 → (a0F g2 a1M 2 [[db, .bool false]])[q]? = g2[q]? := fun q hq => a0U _ _ _ _ (by omega)
 generalize a0F g2 a1M 2 [[db, .bool false]] = g3 at *
 have V0 : ViS (h.length + 1) (h.length + 1) (h.length + 2) g2 g3 (itc [] 0 0 0 0 .nils 0 0 [] [] .nils) ((l.take n).drop 4, false) :=
  ⟨hi0, ⟨db, hc0, sb, fun z hz => hu z (List.mem_of_mem_take (List.mem_of_mem_drop hz)), by simp; omega⟩, hq0, by omega, by omega⟩
 refine d2c V0 fun g4 ld fd V4 owL owF => ?_
 generalize hSt : (((l.take n).drop 4, false) : Cur) = st at *
 obtain ⟨dd, k1, k2, k3, k4⟩ := V4.hc
 obtain ⟨m1, m2⟩ := b8P k1
 have hr4 : g4[h.length]? = some (.row a0D 11 [itr zit]) := by rw [V4.lo h.length (by omega)]; exact hp62
 have hq4 : ∀ q, q < h.length → g4[q]? = h[q]? := fun q hq => by rw [V4.lo q (by omega)]; exact hq6 q hq
 have hl4' : h.length ≤ g4.length := by have := (d5p.1 hr4).1; omega
 have ldi : a0c tab g4 a0D (.ptr (h.length + 1) 0 0) = some (.agg ((a1O st).row ld fd)) := by rw [b0M, a0V V4.hi]; rfl
 have hsl : st.1.length ≤ 1000000000 := by rw [← hSt]; simp [-bind_some]; omega
 obtain ⟨hLl, hFl⟩ := b9K st
 have hLl : (a1O st).ls.length ≤ 9223372036854775807 := by omega
 have hFl : (a1O st).fs.length ≤ 9223372036854775807 := by omega
 simp only [bs, a0x, a2r, a5L, m1, m2, a0r, a1l k2]
 have hzd : ∀ x : Prop, a6b c l = if (a6G st).2 = true ∨ 0 < (a6G st).1.length ∨ c ≠ 0 then (1, 0, ⟨[], 0, 0, 0, 0, [], 0, 0, [], [], []⟩) else (0, 4 + (n : Int), a1O st) := fun _ => by
  unfold a6b
  rw [if_neg h0, hN, if_neg hbad]
  simp only [d5h]
  rw [if_neg h1, hSt]
 have hzd := hzd True
 cases hbd : (a6G st).2 with
 | true =>
  have hz : a6b c l = (1, 0, ⟨[], 0, 0, 0, 0, [], 0, 0, [], [], []⟩) := by rw [hzd, if_pos (.inl hbd)]
  simp only [reduceCtorEq, d4Z, if_false, bs, a0e, if_true, a0r, a0W, a0d]
  exact out g4 _ 0 1 hr4 rfl hl4' hq4 (by rw [hz, a3r])
 | false =>
  simp only [if_true, bs, a0x, a2r, m1, a1l k2, a0v]
  by_cases hlen : 0 < (a6G st).1.length
  ·have hz : a6b c l = (1, 0, ⟨[], 0, 0, 0, 0, [], 0, 0, [], [], []⟩) := by rw [hzd, if_pos (.inr (.inl hlen))]
   have hd1 : decide (((a6G st).1.length : Int) > 0) = true := by simp only [decide_eq_true_eq]; omega
   simp only [hd1, reduceCtorEq, d4Z, d4Y, if_false, bs, a0e, if_true, a0r, a0W, a0d]
   exact out g4 _ 0 1 hr4 rfl hl4' hq4 (by rw [hz, a3r])
  ·have hd1 : decide (((a6G st).1.length : Int) > 0) = false := by simp only [decide_eq_false_iff_not]; omega
   have sL := b3H (n := 1) owL (fun a _ => b6J g4 1 a)
   have sF := b3H (n := 1) owF (fun a _ => b9f g4 1 a)
   have hsn : b1W g4 3 (.agg ((a1O st).row ld fd)) = .agg (itr (c5B (a1O st) _ _ sL sF hLl hFl)) := rfl
   have hcall := hck (c5B (a1O st) _ _ sL sF hLl hFl) (c2c _ _ _ _ _ _ _) (g4.map fun _ => .dead)
   have hokv : (D.agg ((a1O st).row ld fd)).okv = true := by
    clear hcall hsn sL sF V4 ldi
    rcases owL with ⟨rfl, _⟩ | ⟨_, _, rfl, _⟩ <;> rcases owF with ⟨rfl, _⟩ | ⟨_, _, rfl, _⟩ <;> rfl
   have hcB : a5z R a5P [.agg ((a1O st).row ld fd)] g4 = some (.int .i64 c, g4) := by
    unfold a5z
    simp only [d5f, d5g, hsn, hcall]
    rfl
   simp only [hd1, if_true, d4Y, if_false, bs, a0e, a0r, ldi, a0W, hcB, a0t]
   by_cases hc : c = 0
   ·have hz : a6b c l = (0, 4 + (n : Int), a1O st) := by
      rw [hzd, if_neg]
      rintro (hx | hx | hx)
      ·rw [hbd] at hx; cases hx
      ·exact hlen hx
      ·exact hx hc
    rw [hc] at hz
    have w8 : IntKind.wrap .i64 (4 + (n : Int)) = 4 + (n : Int) := wrap_i64 (by omega) (by omega)
    simp only [hc, ne_eq, not_true, decide_false, a0d, d4Y, if_false, bs, ldi, a0u, w8]
    refine b1e (kk := 0) (off := 0) (row := itr zit) (v := .agg ((a1O st).row ld fd)) hr4 (by rfl) (by rfl) (by exact Nat.le_refl _) hokv fun g5 h5 s5 => ?_
    have h5 : g5[h.length]? = some (.row a0D 11 [(a1O st).row ld fd]) := h5
    have ld5 : a0c tab g5 a0D (.ptr h.length 0 0) = some (.agg ((a1O st).row ld fd)) := by rw [b0M, a0V h5]; rfl
    have owL5 : Own g5 (h.length + 1) a1A 3 ((a1O st).ls.map a1p) ld := owL.keep fun q hq _ => s5.2 q (by omega)
    have owF5 : Own g5 (h.length + 1) a0w 2 ((a1O st).fs.map fld) fd := owF.keep fun q hq _ => s5.2 q (by omega)
    have fL := a2C (n0 := h.length) (n := 1) owL5 (by omega) (fun a _ => a3Y _ g5 1 a)
    have fF := a2C (n0 := h.length) (n := 1) owF5 (by omega) (fun a _ => a6i _ g5 1 a)
    simp only [ld5, bs, b1M]
    rw [a1i (d' := .tup [.agg (itr (c5B (a1O st) _ _ fL fF hLl hFl)), .int .i64 (4 + (n : Int)), .int .i64 0]) rfl (by
     refine .tup _ fun d hd => ?_
     simp at hd
     rcases hd with rfl | rfl | rfl
     ·exact b0G _ _
     ·constructor
     ·constructor) (by rw [s5.1]; exact hl4') (fun q hq => by rw [s5.2 q (by omega)]; exact hq4 q hq)]
    exact .some ⟨rfl, _, by rw [hz], by rw [hz]; rfl⟩
   ·have hz : a6b c l = (1, 0, ⟨[], 0, 0, 0, 0, [], 0, 0, [], [], []⟩) := by rw [hzd, if_pos (.inr (.inr hc))]
    simp only [hc, ne_eq, not_false_eq_true, decide_true, a0d, if_true, bs]
    exact out g4 _ 0 1 hr4 rfl hl4' hq4 (by rw [hz, a3r])
theorem c5X (l : List Int) (d : D) (h : Hp) (hd : RdB h l d) (hl : l.length ≤ 9223372036854775807) : R b5O [d] h = some (.int .u32 (crc l), h) := by
 apply Wp.val
 rw [c7N]
 simp only [c3m, bs, d4X, a6n hd]
 refine Wp.loop (fun k ds g => g = h ∧ ∃ a b c e, ∃ i : Nat, ds = [.int .u32 (b4F 4294967295 (l.take i)), a, .int .i64 i, b, c, e] ∧ k + i = l.length) (fun r => r.1 = .ext 0 ∧ r.2.2 = h ∧ nth 0 r.2.1 = .int .u32 (b4F 4294967295 l)) l.length ⟨rfl, _, _, _, _, 0, rfl, rfl⟩ ?_ ?_
 ·rintro k ds g ⟨rfl, a, b, c, e, i, rfl, hk⟩
  simp only [b2h, a0f, a0n, bs, d4X, a0j]
  refine Wp.dif ?_ ?_
  ·intro h0
   have h0 : i < l.length := dl_ h0
   have hg : l[i]? = some l[i] := d5o h0
   have htk : l.take (i + 1) = l.take i ++ [l[i]] := by rw [d5k, hg]; rfl
   generalize l[i] = z at hg htk
   have hw := wi_ i (by omega)
   obtain ⟨qq, q1, q2⟩ := b7v hd i z hg
   simp only [q1, q2, bs, b5j, a5D]
   have hst : b1b 8 (IntKind.wrap .u32 (BitVec.ofInt IntKind.u32.bits (b4F 4294967295 (l.take i)) ^^^ BitVec.ofInt IntKind.u32.bits (IntKind.wrap .u32 z)).toNat) = b4F 4294967295 (l.take (i + 1)) := by rw [htk, a7g]; rfl
   refine d0S g _ (by rw [a5p]; exact a7W _) _ fun a b => ?_
   simp only [a0l, a1t, a0o, a0f, a0n, bs, a0u, hw, hst]
   exact .some (.inl ⟨rfl, k - 1, by omega, rfl, _, _, _, _, i + 1, rfl, by omega⟩)
  ·intro h0
   have h0 : i = l.length := by
    have : ¬ (i : Int) < l.length := by simpa using h0
    omega
   subst h0
   exact .some (.inr ⟨by simp, rfl, rfl, by simp⟩)
 ·rintro ⟨x, ds, g⟩ ⟨rfl, rfl, hx⟩
  replace hx : nth 0 ds = _ := hx
  simp only [a0l, a0o, a0f, bs, hx, b5n, a0g]
  exact .some rfl
theorem b7G (ps : List (List Int × D)) (d : D) (h : Hp) (hd : SlOf 1 (fun p : List Int × D => [p.2]) ps d) (hps : ∀ p ∈ ps, RdB h p.1 p.2) (htot : ((ps.map (·.1)).flatten).length ≤ 1000000000) (hpl : ps.length ≤ 1000000000) : ∃ d' h', R a8i [d] h = some (d', h') ∧ Own h' h.length ty5 1 (((ps.map (·.1)).flatten).map byr) d' ∧ h.length ≤ h'.length ∧ ∀ q, q < h.length → h'[q]? = h[q]? := by
 suffices Wp (R a8i [d] h) (fun r => Own r.2 h.length ty5 1 (((ps.map (·.1)).flatten).map byr) r.1 ∧ h.length ≤ r.2.length ∧ ∀ q, q < h.length → r.2[q]? = h[q]?) by
  obtain ⟨⟨x, h'⟩, h1, h2⟩ := this
  exact ⟨x, h', h1, h2⟩
 have hcl : ∀ i, (((ps.take i).map (·.1)).flatten).length ≤ ((ps.map (·.1)).flatten).length := fun i => by
  have : ((ps.take i).map (·.1)).flatten ++ ((ps.drop i).map (·.1)).flatten = (ps.map (·.1)).flatten := by
   rw [← List.flatten_append, ← d5e, List.take_append_drop]
  rw [← this]; simp [-bind_some]
 have hcs : ∀ i p, ps[i]? = some p → ((ps.take (i + 1)).map (·.1)).flatten = ((ps.take i).map (·.1)).flatten ++ p.1 := fun i p hp => by
  rw [d5k, hp]; simp [-bind_some]
 rw [c7J]
 simp only [c3j, bs, d4X, b9q hd]
 refine Wp.loop (fun k ds g => g = h ∧ ∃ a b c, ∃ i : Nat, ds = [.int .i64 (((ps.take i).map (·.1)).flatten).length, a, .int .i64 i, b, c] ∧ k + i = ps.length)
  (fun r => r.1 = .ext 0 ∧ r.2.2 = h ∧ nth 0 r.2.1 = .int .i64 ((ps.map (·.1)).flatten).length) ps.length ⟨rfl, _, _, _, 0, rfl, rfl⟩ ?_ ?_
 ·rintro k ds g ⟨rfl, a, b, c, i, rfl, hk⟩
  simp only [b2e, a0f, a0n, bs, d4X, a0j]
  refine Wp.dif ?_ ?_
  ·intro h0
   have h0 : i < ps.length := dl_ h0
   have hg : ps[i]? = some ps[i] := d5o h0
   generalize ps[i] = p at hg
   have hp := hps p (d5m hg)
   have hw := wi_ i (by omega)
   have h1 := hcs i p hg
   have h2 := hcl (i + 1)
   have hw2 : IntKind.wrap .i64 ((((ps.take i).map (·.1)).flatten.length : Int) + p.1.length) = (((ps.take (i + 1)).map (·.1)).flatten).length := by
    rw [h1] at h2 ⊢
    simp only [d5c] at h2 ⊢
    rw [wrap_i64 (by omega) (by omega)]; omega
   have hnn : ¬ ((((ps.take (i + 1)).map (·.1)).flatten.length : Int) < 0) := by omega
   simp only [b6y hd, Int.natCast_nonneg, if_true, d5h, hg, Option.map_some, bs, d2v, a6n hp, a0u, hw2, hw, hnn, decide_false, a0d, d4Y, if_false, a1t, a0o]
   exact .some (.inl ⟨rfl, k - 1, by omega, rfl, _, _, _, i + 1, rfl, by omega⟩)
  ·intro h0
   have h0 : i = ps.length := by
    have : ¬ (i : Int) < ps.length := by simpa using h0
    omega
   subst h0
   exact .some (.inr ⟨by simp, rfl, rfl, by simp⟩)
 ·rintro ⟨x, ds, g⟩ ⟨rfl, rfl, hx⟩
  replace hx : nth 0 ds = _ := hx
  simp only [a0l, a0o, a0f, bs, hx, d1i _ g (Int.natCast_nonneg _) (by omega : ((((ps.map (·.1)).flatten).length : Nat) : Int) ≤ 1000000000)]
  generalize htt : ((ps.map (·.1)).flatten).length = tot at *
  have hcase : ∃ x0 g0, (if (tot : Int) = 0 then some (D.nils, g) else some (.msl 1 g.length 0 0, a0F g ty5 1 (List.replicate (tot : Int).toNat zby))) = some (x0, g0) ∧ g.length ≤ g0.length ∧ (∀ q, q < g.length → g0[q]? = g[q]?) ∧ ((tot = 0 ∧ x0 = .nils) ∨ (x0 = .msl 1 g.length 0 0 ∧ g0[g.length]? = some (.row ty5 1 (List.replicate tot zby)))) := by
   by_cases hz : tot = 0
   ·subst hz
    exact ⟨_, _, by simp, Nat.le_refl _, fun _ _ => rfl, .inl ⟨rfl, rfl⟩⟩
   ·refine ⟨.msl 1 g.length 0 0, a0F g ty5 1 (List.replicate tot zby), by simp [-bind_some, hz], by simp [-bind_some, a0F], fun q hq => ?_, .inr ⟨rfl, by simp [-bind_some, a0F]⟩⟩
    simp only [a0F]; rw [d5y hq]
  obtain ⟨x0, g0, e0, len0, bel0, hx0⟩ := hcase
  refine Wp.step e0 ?_
  simp only [bs]
  refine Wp.loop (fun k ds g' => ∃ x a b, ∃ i : Nat, ds = [x, a, .int .i64 i, b] ∧ k + i = ps.length ∧ g.length ≤ g'.length ∧ (∀ q, q < g.length → g'[q]? = g[q]?) ∧ ((tot = 0 ∧ x = .nils) ∨ (x = .msl 1 g.length 0 (((ps.take i).map (·.1)).flatten.map byr).length ∧ g'[g.length]? = some (.row ty5 1 (((ps.take i).map (·.1)).flatten.map byr ++ List.replicate (tot - (((ps.take i).map (·.1)).flatten).length) zby)))))
   (fun r => r.1 = .ext 2 ∧ g.length ≤ r.2.2.length ∧ (∀ q, q < g.length → r.2.2[q]? = g[q]?) ∧ ((tot = 0 ∧ nth 0 r.2.1 = .nils) ∨ (nth 0 r.2.1 = .msl 1 g.length 0 tot ∧ r.2.2[g.length]? = some (.row ty5 1 ((ps.map (·.1)).flatten.map byr))))) ps.length ⟨x0, _, _, 0, rfl, rfl, len0, bel0, by simpa using hx0⟩ ?_ ?_
  ·rintro k ds g' ⟨x, a, b, i, rfl, hk, len, bel, hxx⟩
   simp only [b2f, a0f, a0n, bs, d4X, a0j]
   refine Wp.dif ?_ ?_
   ·intro h0
    have h0 : i < ps.length := dl_ h0
    have hg : ps[i]? = some ps[i] := d5o h0
    generalize ps[i] = p at hg
    have hp : RdB g' p.1 p.2 := (hps p (d5m hg)).keep fun q T z rows hq => bel q (d5p.1 hq).1
    have hw := wi_ i (by omega)
    have h1 := hcs i p hg
    have h2 := hcl (i + 1)
    rw [h1, d5c] at h2
    simp only [b6y hd, Int.natCast_nonneg, if_true, d5h, hg, Option.map_some, bs, d2v]
    rcases hxx with ⟨hz, rfl⟩ | ⟨rfl, hgo⟩
    ·have hp0 : p.1 = [] := List.length_eq_zero_iff.1 (by omega)
     have e3 : a0C tab g' a0H a0H .nils p.2 = some (.nils, g') := by
      have hd : b0h g' ti22 ti5 p.2 = some [] := by
       simp only [b0h, a9K, b3S, a4b hp, hp0]
       rfl
      unfold a0C
      simp only [b1Y, a9K, b8e, hd, b3S, c4v]
     refine Wp.step e3 ?_
     simp only [a0u, bs, hw]
     exact .some (.inl ⟨rfl, k - 1, by omega, _, _, _, i + 1, rfl, by omega, len, bel, .inl ⟨hz, rfl⟩⟩)
    ·obtain ⟨g3, e3, hg3, s3⟩ := b8x (T := tab) (t := a0H) (i := ti22) (j := ti5) (id rfl) (id rfl) (id rfl) (by decide) hgo (a4b hp) (a4j (by rw [c6x]; simp only [d5d]; omega) (by simp only [d5d]; omega)) (by simp only [d5d, List.length_replicate]; omega)
     refine Wp.step e3 ?_
     simp only [bs, a0u, hw]
     refine .some (.inl ⟨rfl, k - 1, by omega, _, _, _, i + 1, rfl, by omega, by rw [s3.1]; exact len, fun q hq => (s3.2 q (by omega)).trans (bel q hq), .inr ⟨?_, ?_⟩⟩)
     ·rw [h1]; simp [-bind_some]; rfl
     ·refine hg3.trans ?_
      rw [h1]
      simp only [d5e, d5d, List.drop_replicate, d5c]
      congr 4
      omega
   ·intro h0
    have h0 : i = ps.length := by
     have : ¬ (i : Int) < ps.length := by simpa using h0
     omega
    subst h0
    refine .some (.inr ⟨by simp, rfl, len, bel, ?_⟩)
    rcases hxx with ⟨h1, rfl⟩ | ⟨rfl, hgo⟩
    ·exact .inl ⟨h1, rfl⟩
    ·right
     rw [d5x] at hgo ⊢
     simp only [a0f, d5d, htt] at hgo ⊢
     simpa using hgo
  ·rintro ⟨ex, ds, g'⟩ ⟨rfl, len, bel, hxx⟩
   simp only [a0l, a0o, bs, a0g]
   rcases hxx with ⟨h1, hx⟩ | ⟨hx, hgo⟩
   ·replace hx : nth 0 ds = _ := hx
    rw [hx]
    refine .some ⟨.inl ⟨rfl, ?_⟩, len, bel⟩
    rw [List.map_eq_nil_iff]
    exact List.length_eq_zero_iff.1 (by omega)
   ·replace hx : nth 0 ds = _ := hx
    rw [hx]
    exact .some ⟨.inr ⟨g.length, Nat.le_refl _, by rw [d5d, htt], hgo⟩, len, bel⟩
theorem c5V (l p : List Int) (dl dp : D) (h : Hp) (hl : SlOf 1 byr l dl) (hp : SlOf 1 byr p dp) (hn : (l ++ p).length ≤ 1000000000) : R b5L [dl, dp] h = some (.int .u32 (crc (l ++ p)), h) := by
 rw [c7K]
 obtain ⟨d', h', e1, ow, len, old⟩ := b7G [(l, dl), (p, dp)] (.sl 1 true [[dl], [dp]]) h (SlOf.mk 1 (fun p : List Int × D => [p.2]) [(l, dl), (p, dp)] true) (by
  intro q hq
  simp only [d5u, List.not_mem_nil, or_false] at hq
  rcases hq with rfl | rfl
  ·exact .inl hl
  ·exact .inl hp) (by simpa using hn) (by simp)
 have ow : Own h' h.length ty5 1 ((l ++ p).map byr) d' := by simpa using ow
 simp only [c3k, bs, b8C dl dp (a1z hl) (a1z hp), e1, c5X _ _ h' (RdB.own ow) (by omega), a0g]
 exact a1i (by simp) (.int _ _) len old
theorem c0H (j p : List Int) (dj dp : D) (h : Hp) (hj : SlOf 1 byr j dj) (hp : SlOf 1 byr p dp) (hjl : j.length ≤ 100000000) (hpl : p.length ≤ 1000000000) : ∃ d', R b2Z [dj, dp] h = some (.tup [d', .int .i64 (a7T j p)], h) ∧ SlOf 1 byr (a9v j p) d' := by
 rw [c7F]
 have hsn : ∀ n : Int, scope h h (.tup [.nils, .int .i64 n]) = some (.tup [.nils, .int .i64 n], h) := fun n => a1i (by simp) (.tup _ fun d hd => by simp at hd; rcases hd with rfl | rfl <;> constructor) (Nat.le_refl _) fun _ _ => rfl
 have w1 := wrap_i64 (n := (j.length : Int) + 8) (by omega) (by omega)
 have w2 := wrap_i64 (n := (j.length : Int) + 8 + p.length) (by omega) (by omega)
 by_cases h0 : p.length = 0
 ·have he : a7T j p = 3 := by simp [-bind_some, a7T, h0]
  exact ⟨.nils, by simp [-bind_some, b4J, a1l hp, h0, he, hsn], .inl ⟨rfl, by simp [-bind_some, a9v, he]⟩⟩
 have hpn : ¬ p = [] := by intro hh; subst hh; simp at h0
 by_cases h1 : 8388608 < p.length
 ·have he : a7T j p = 3 := by simp [-bind_some, a7T, h0, h1]
  have h1' : (8388608 : Int) < p.length := by omega
  have h0' : ¬ (p.length : Int) = 0 := by omega
  exact ⟨.nils, by simp [-bind_some, b4J, a1l hp, hpn, h1', he, hsn], .inl ⟨rfl, by simp [-bind_some, a9v, he]⟩⟩
 have h1' : ¬ (8388608 : Int) < p.length := by omega
 have h0' : ¬ (p.length : Int) = 0 := by omega
 by_cases h2 : 67108864 < j.length + 8 + p.length
 ·have he : a7T j p = 16 := by simp [-bind_some, a7T, h0, h1, h2]
  have h2' : (67108864 : Int) < j.length + 8 + p.length := by omega
  exact ⟨.nils, by simp [-bind_some, b4J, a1l hp, a1l hj, hpn, h1', w1, w2, h2', he, hsn], .inl ⟨rfl, by simp [-bind_some, a9v, he]⟩⟩
 have h2' : ¬ (67108864 : Int) < j.length + 8 + p.length := by omega
 have he : a7T j p = 0 := by simp [-bind_some, a7T, h0, h1, h2]
 have hw : IntKind.wrap .u32 (p.length : Int) = p.length := a3q (by omega) (by omega)
 have hsum := c5V (a2Y p.length) p _ dp h (SlOf.mk 1 byr (a2Y p.length) true) hp (by simp [-bind_some, a2v]; omega)
 obtain ⟨d', h', e1, ow, len, old⟩ := b7G [(j, dj), (a2Y p.length, .sl 1 true ((a2Y p.length).map byr)), (a2Y (crc (a2Y p.length ++ p)), .sl 1 true ((a2Y (crc (a2Y p.length ++ p))).map byr)), (p, dp)]
  (.sl 1 true [[dj], [.sl 1 true ((a2Y p.length).map byr)], [.sl 1 true ((a2Y (crc (a2Y p.length ++ p))).map byr)], [dp]]) h (SlOf.mk 1 (fun p : List Int × D => [p.2]) [(j, dj), (a2Y p.length, .sl 1 true ((a2Y p.length).map byr)), (a2Y (crc (a2Y p.length ++ p)), .sl 1 true ((a2Y (crc (a2Y p.length ++ p))).map byr)), (p, dp)] true)
  (by
   intro q hq
   simp only [d5u, List.not_mem_nil, or_false] at hq
   rcases hq with rfl | rfl | rfl | rfl
   ·exact .inl hj
   ·exact .inl (SlOf.mk _ _ _ _)
   ·exact .inl (SlOf.mk _ _ _ _)
   ·exact .inl hp) (by simp [-bind_some, a2v]; omega) (by simp)
 have ow : Own h' h.length ty5 1 ((a9v j p).map byr) d' := by simpa [-bind_some, a9v, he] using ow
 have hsl := a2C (n0 := h.length) (n := 2) ow (Nat.le_refl _) (fun a _ => a5d _ h' 2 a)
 have hl4 := b8E dj (.sl 1 true ((a2Y p.length).map byr)) (.sl 1 true ((a2Y (crc (a2Y p.length ++ p))).map byr)) dp (a1z hj) rfl rfl (a1z hp)
 have hend : scope h h' (.tup [d', .int .i64 0]) = some (.tup [frz h.length h' 3 d', .int .i64 0], h) := a1i (by simp) (by
  refine .tup _ fun d hd => ?_
  simp at hd
  rcases hd with rfl | rfl
  ·exact a2e hsl fun a _ => a7X _ a
  ·constructor) len old
 refine ⟨frz h.length h' 3 d', ?_, hsl⟩
 simp [-bind_some, b4J, a1l hp, a1l hj, hpn, h1', w1, w2, h2', he, hw, c2i, hsum, hl4, e1, hend]
theorem c5U (h : Hp) : R b5J [] h = some (.bool true, h) := by
 rw [c7E]
 obtain ⟨d', e1, hs⟩ := c0H [] [1] .nils (.sl 1 true [[.int .u8 1]]) h (SlOf.nils _ _) (SlOf.mk 1 byr [1] true) (by simp) (by simp)
 have h0 : a7T [] [1] = 0 := by decide
 have h1 : (a9v [] [1]).length = 9 := by simp [-bind_some, a9v, h0, a2v]
 rw [h0] at e1
 simp [-bind_some, c3g, e1, a1l hs, h1]
theorem b8l (n : Int) : IntKind.wrap .u32 n = n % 4294967296 := by
 unfold IntKind.wrap
 simp [-bind_some, IntKind.signed, IntKind.bits, IntKind.min, IntKind.max]
theorem b9d (a : Int) (k : Nat) : a.fdiv (2 ^ k) = a / 2 ^ k := Int.fdiv_eq_ediv_of_nonneg _ (Int.le_of_lt (Int.pow_pos (by omega)))
theorem c2D (n : Int) : a2Y (IntKind.wrap .u32 ((IntKind.wrap .u64 n).fdiv (2 ^ 32))) ++ a2Y (IntKind.wrap .u32 n) = pI n := by
 unfold pI a2Y
 simp only [a4l, a6Z, b8l, b8m, b9d, List.cons_append, List.nil_append, Nat.reduceMul]
 simp only [Int.reducePow, Int.ediv_one]
 simp only [List.cons.injEq, and_true]
 refine ⟨by omega, by omega, by omega, by omega, by omega, by omega, by omega, by omega⟩
theorem c2f {h : Hp} {l : List Int} {d : D} (hd : RdB h l d) : d.one = true := by
 rcases hd with hd | ⟨o, rfl, _⟩
 ·exact a1z hd
 ·rfl
theorem c6p (l : List Int) (n : Int) (d : D) (h : Hp) (hd : RdB h l d) (hl : l.length ≤ 100000000) : ∃ d' h', R b0B [d, .int .i64 n] h = some (d', h') ∧ Own h' h.length ty5 1 ((l ++ pI n).map byr) d' ∧ h.length ≤ h'.length ∧ ∀ q, q < h.length → h'[q]? = h[q]? := by
 have m32 : min ((32 : Int).toNat) IntKind.u64.bits = 32 := by decide
 have hw := c2D n
 generalize hA : a2Y (IntKind.wrap .u32 ((IntKind.wrap .u64 n).fdiv (2 ^ 32))) = A at hw
 generalize hB : a2Y (IntKind.wrap .u32 n) = B at hw
 have hlA : A.length = 4 := by rw [← hA]; rfl
 have hlB : B.length = 4 := by rw [← hB]; rfl
 obtain ⟨d', h', e1, ow, len, old⟩ := b7G [(l, d), (A, .sl 1 true (A.map byr)), (B, .sl 1 true (B.map byr))] (.sl 1 true [[d], [.sl 1 true (A.map byr)], [.sl 1 true (B.map byr)]]) h (SlOf.mk 1 (fun p : List Int × D => [p.2]) [(l, d), (A, .sl 1 true (A.map byr)), (B, .sl 1 true (B.map byr))] true)
  (by
   intro q hq
   simp only [d5u, List.not_mem_nil, or_false] at hq
   rcases hq with rfl | rfl | rfl
   ·exact hd
   ·exact .inl (SlOf.mk _ _ _ _)
   ·exact .inl (SlOf.mk _ _ _ _)) (by simp; omega) (by simp)
 have hfl : (([(l, d), (A, .sl 1 true (A.map byr)), (B, .sl 1 true (B.map byr))] : List (List Int × D)).map (·.1)).flatten = l ++ pI n := by rw [← hw]; simp [-bind_some]
 rw [hfl] at ow
 refine ⟨d', h', ?_, ow, len, old⟩
 rw [c8S]
 simp only [c4l, bs, a2f, a2n, show ¬ (32 : Int) < 0 by omega, if_false, m32, b5i, c2i, hA, hB, c0d, b8D d (.sl 1 true (A.map byr)) (.sl 1 true (B.map byr)) (c2f hd) rfl rfl, e1, a0g]
theorem b7f (b : List Int) : ∀ (a : List Int), num (a ++ b) = num a * 256 ^ b.length + num b
 | [] => by simp [-bind_some, num]
 | z :: a => by
  rw [List.cons_append, a9A, b7f b a, a9A, d5c, Int.pow_add, Int.add_mul, Int.mul_assoc]
  omega
theorem b7J (l : List Int) (d : D) (h : Hp) (hd : SlOf 1 byr l d) (hl : 4 ≤ l.length) (hu : ∀ z ∈ l, U8 z) : R a7v [d] h = some (.int .u32 (num (l.take 4)), h) := by
 obtain ⟨a, b, c, e, r, rfl⟩ : ∃ a b c e r, l = a :: b :: c :: e :: r := by
  match l, hl with
  | a :: b :: c :: e :: r, _ => exact ⟨a, b, c, e, r, rfl⟩
 obtain ⟨d0, e0, s0⟩ := b4B hd (k := .i64) (n := 4) (by omega) (by simp; omega)
 have s0 : SlOf 1 byr [a, b, c, e] d0 := s0
 have key := d1w a b c e d0 h s0 (hu a (by simp)) (hu b (by simp)) (hu c (by simp)) (hu e (by simp))
 rw [c4N] at key ⊢
 have i0 : a0b tab a0H d (.int .i64 0) = some (.fptr (byr a)) := by rw [a3X hd]; rfl
 have i1 : a0b tab a0H d (.int .i64 1) = some (.fptr (byr b)) := by rw [a3X hd]; rfl
 have i2 : a0b tab a0H d (.int .i64 2) = some (.fptr (byr c)) := by rw [a3X hd]; rfl
 have i3 : a0b tab a0H d (.int .i64 3) = some (.fptr (byr e)) := by rw [a3X hd]; rfl
 have j0 : a0b tab a0H d0 (.int .i64 0) = some (.fptr (byr a)) := by rw [a3X s0]; rfl
 have j1 : a0b tab a0H d0 (.int .i64 1) = some (.fptr (byr b)) := by rw [a3X s0]; rfl
 have j2 : a0b tab a0H d0 (.int .i64 2) = some (.fptr (byr c)) := by rw [a3X s0]; rfl
 have j3 : a0b tab a0H d0 (.int .i64 3) = some (.fptr (byr e)) := by rw [a3X s0]; rfl
 simp only [b8u, bs, j0, j1, j2, j3] at key
 simp only [b8u, bs, i0, i1, i2, i3]
 exact key
theorem c6q (l : List Int) (d : D) (h : Hp) (hd : SlOf 1 byr l d) (hl : 8 ≤ l.length) (hu : ∀ z ∈ l, U8 z) : R a8m [d] h = some (.int .i64 (IntKind.wrap .i64 (num (l.take 8))), h) := by
 rw [c8T]
 have m32 : min ((32 : Int).toNat) IntKind.u64.bits = 32 := by decide
 have p32 : (2 : Int) ^ 32 = 4294967296 := by decide
 obtain ⟨d1, e1, h1⟩ := b1V hd (k := .i64) (n := 4) (by omega) (by omega)
 have h1 : SlOf 1 byr (l.drop 4) d1 := h1
 have q1 := b7J l d h hd (by omega) hu
 have q2 := b7J (l.drop 4) d1 h h1 (by simp; omega) (fun z hz => hu z (List.mem_of_mem_drop hz))
 have hsp : l.take 8 = l.take 4 ++ (l.drop 4).take 4 := by rw [← List.take_add]
 have l1 : (l.take 4).length = 4 := by simp; omega
 have l2 : ((l.drop 4).take 4).length = 4 := by simp; omega
 obtain ⟨a0, a1⟩ := a2m 4 _ l1 fun z hz => hu z (List.mem_of_mem_take hz)
 obtain ⟨b0, b1⟩ := a2m 4 _ l2 fun z hz => hu z (List.mem_of_mem_drop (List.mem_of_mem_take hz))
 rw [b0Q] at a1 b1
 have hn : num (l.take 8) = num (l.take 4) * 4294967296 + num ((l.drop 4).take 4) := by rw [hsp, b7f, l2, b0Q]
 generalize num (l.take 4) = x at *
 generalize num ((l.drop 4).take 4) = y at *
 have w1 : IntKind.wrap .u64 x = x := a1j (by omega) (by omega)
 have w2 : IntKind.wrap .u64 y = y := a1j (by omega) (by omega)
 have w3 : IntKind.wrap .u64 (x * 2 ^ 32) = x * 2 ^ 32 := by rw [p32]; exact a1j (by omega) (by omega)
 have w4 := b3F (x := x) (b := y) 32 a0 b0 (by rw [p32]; omega) (by rw [p32]; omega)
 simp only [c4m, bs, q1, q2, e1, b0e, w1, w2, a5C, show ¬ (32 : Int) < 0 by omega, if_false, m32, w3, a7j, w4, a2T, a0g]
 rw [hn, p32]
structure RG (hs : Int) (i : It) : Prop where
 fs : i.e.fs.length ≤ 20
 ok : itE i = 0
 host : i.e.a0 = hs
 r : (i.r == ([42] : Str)) = false
 bl : (a1S i).length ≤ 20000
 rd : ItR i
theorem a9E {i j : It} (h : a2S i = a2S j) : a3L i = a3L j ∧ itE i = itE j ∧ (∀ hs, RG hs i → RG hs j) ∧ a5k i j = true := by
 obtain ⟨r, ⟨a0, a1, a2, a3, ls, ld, a5, a6, s7, s8, fs, fd, p1, p2, p3, p4⟩⟩ := i
 obtain ⟨r', ⟨a0', a1', a2', a3', ls', ld', a5', a6', s7', s8', fs', fd', p1', p2', p3', p4'⟩⟩ := j
 simp only [a2S, RI.mk.injEq] at h
 obtain ⟨rfl, rfl, rfl, rfl, rfl, rfl, rfl, rfl, rfl, rfl, rfl⟩ := h
 refine ⟨rfl, rfl, fun hs g => ⟨g.fs, g.ok, g.host, g.r, g.bl, ⟨g.rd.r, g.rd.a0, g.rd.a1, g.rd.a2, g.rd.a3, g.rd.nl, g.rd.ls, g.rd.a5, g.rd.a6, g.rd.t7, g.rd.t8, g.rd.nf, g.rd.fs⟩⟩, ?_⟩
 simp [-bind_some, a5k, a5W]
def RdI (g : Hp) (its : List It) (d : D) : Prop := SlOf 11 itr its d ∨ ∃ n0, Own g n0 a0D 11 (its.map itr) d
theorem RdI.keep {g g' : Hp} {its : List It} {d : D} (hd : RdI g its d) (hk : ∀ q, q < g.length → g'[q]? = g[q]?) : RdI g' its d := by
 rcases hd with hd | ⟨n0, ow⟩
 ·exact .inl hd
 ·exact .inr ⟨n0, ow.keep fun q _ hx => hk q (ow.lt hx).2⟩
theorem a6o {g : Hp} {its : List It} {d : D} (hd : RdI g its d) : a0y tab a0K d = some (.int .i64 its.length) := by
 rcases hd with hd | ⟨n0, ow⟩
 ·exact a4y hd
 ·rw [c1Y ow, d5d]
theorem b3J {g : Hp} {its : List It} {d : D} (hd : RdI g its d) (n : Nat) (i : It) (hi : its[n]? = some i) : ∃ q, a0b tab a0K d (.int .i64 n) = some q ∧ a0c tab g a0D q = some (.agg (itr i)) := by
 rcases hd with hd | ⟨n0, ow⟩
 ·exact ⟨.fptr (itr i), by rw [a7z hd]; simp [-bind_some, hi], b4H i g⟩
 ·have hn : n < its.length := (d5p.1 hi).1
  obtain ⟨o, ho, rfl, hob⟩ := a4k ow (i := n) (by simpa using hn)
  refine ⟨.ptr o n 0, ?_, ?_⟩
  ·rw [c5f, if_pos (by simp; omega)]; simp [-bind_some]
  ·have hr : (its.map itr)[n]? = some (itr i) := by rw [d5l, hi]; rfl
   rw [b0M, a0V hob, hr]
   rfl
def a1X (hs nu : Int) (d : D) : List D := [.int .i64 hs, .int .i64 nu, d]
theorem bx0 (hs nu : Int) (d : D) : a0a tab a0q 0 (.fptr (a1X hs nu d)) = some (.fptr (a1X hs nu d)) := id rfl
theorem bx1 (hs nu : Int) (d : D) : a0a tab a0q 1 (.fptr (a1X hs nu d)) = some (.fptr [.int .i64 nu, d]) := id rfl
theorem bx2 (hs nu : Int) (d : D) : a0a tab a0q 2 (.fptr (a1X hs nu d)) = some (.fptr [d]) := id rfl
theorem bxl (hs nu : Int) (d : D) (g : Hp) : a0c tab g ty3 (.fptr (a1X hs nu d)) = some (.int .i64 hs) := id rfl
theorem bxb (hs nu : Int) (d : D) (g : Hp) : a0c tab g a0q (.fptr (a1X hs nu d)) = some (.agg (a1X hs nu d)) := id rfl
def a6e (hs nu : Int) (its : List It) : List Int := (pI hs ++ pI nu ++ pN its.length) ++ (its.map a3L).flatten
theorem a9T {hs nu : Int} {a b : List It} (h : a.map a2S = b.map a2S) : a6e hs nu a = a6e hs nu b := by
 have hl : a.length = b.length := by have := congrArg List.length h; simpa using this
 have key : ∀ (a b : List It), a.map a2S = b.map a2S → a.map a3L = b.map a3L := by
  intro a
  induction a with
  | nil => intro b hb; cases b with
   | nil => rfl
   | cons y b => simp at hb
  | cons x a ih => intro b hb; cases b with
   | nil => simp at hb
   | cons y b =>
    simp only [d5f, List.cons.injEq] at hb ⊢
    exact ⟨(a9E hb.1).1, ih b hb.2⟩
 unfold a6e
 rw [hl, key a b h]
theorem c5E {h : Hp} {n0 n1 e z : Nat} {rows : List (List D)} {d : D} (ow : Own h n1 e z rows d) (hn : n0 ≤ n1) : Own h n0 e z rows d := by
 rcases ow with hx | ⟨o, ho, hx⟩
 ·exact .inl hx
 ·exact .inr ⟨o, Nat.le_trans hn ho, hx⟩
theorem b4Q (hs nu : Int) (its : List It) : ∀ z ∈ a6e hs nu its, U8 z := by
 intro z hz
 simp only [a6e, d5v, List.mem_flatten, d5w] at hz
 rcases hz with ((h | h) | h) | ⟨_, ⟨i, _, rfl⟩, h⟩
 ·exact a4C _ _ z h
 ·exact a4C _ _ z h
 ·exact a4C _ _ z h
 ·exact c1z i z h
theorem c5H {a b : List It} (hab : a.map a2S = b.map a2S) {n : Nat} {i j : It} (hi : a[n]? = some i) (hj : b[n]? = some j) : a2S i = a2S j := by
 have := congrArg (fun l => l[n]?) hab
 simpa [-bind_some, d5l, hi, hj] using this
theorem c6o (hs nu : Int) (a b : List It) (da db : D) (h : Hp) (ha : SlOf 11 itr a da) (hb : SlOf 11 itr b db) (hab : a.map a2S = b.map a2S) (hl : a.length ≤ 1000000000) : R b3p [.agg (a1X hs nu da), .agg (a1X hs nu db)] h = some (.bool true, h) := by
 apply Wp.val
 have hlen : a.length = b.length := by have := congrArg List.length hab; simpa using this
 rw [c8R]
 simp only [c4k, a1b, bs, d4X, bx0, bx1, bx2, bxl, ld3, a6j, a0t, ne_eq, not_true, decide_false, a0r, if_true, a0e, d4Y, if_false, a4y ha, a4y hb, hlen, a0d]
 refine Wp.loop (fun k ds g => g = h ∧ ∃ a1 a3 a4, ∃ n : Nat, ds = [a1, .int .i64 n, a3, a4] ∧ k + n = a.length) (fun r => r.1 = .ext 0 ∧ r.2.2 = h) a.length ⟨rfl, _, _, _, 0, rfl, rfl⟩ ?_ ?_
 ·rintro k ds g ⟨rfl, a1, a3, a4, n, rfl, hk⟩
  simp only [b2C, a0f, a0n, bs, d4X, bx2, a6j, a4y ha, a0j]
  refine Wp.dif ?_ ?_
  ·intro h0
   have h0 : n < a.length := dl_ h0
   obtain ⟨i, hi⟩ := gx_ h0
   obtain ⟨j, hj⟩ : ∃ j, b[n]? = some j := ⟨_, d5o (by omega)⟩
   have hsm := (a9E (c5H hab hi hj)).2.2.2
   have hw := wi_ n (by omega)
   have hii : a0b tab a0K da (.int .i64 (n : Int)) = some (.fptr (itr i)) := by rw [a7z ha]; simp [-bind_some, hi]
   have hjj : a0b tab a0K db (.int .i64 (n : Int)) = some (.fptr (itr j)) := by rw [a7z hb]; simp [-bind_some, hj]
   simp only [hii, hjj, b4H, s82, hsm, bs, a1m, d5i, a0d, d4Y, if_false, a0u, hw]
   exact .some (.inl ⟨rfl, k - 1, by omega, rfl, _, _, _, n + 1, rfl, by omega⟩)
  ·intro h0
   exact .some (.inr ⟨by simp, rfl, rfl⟩)
 ·rintro ⟨ex, ds, g⟩ ⟨q1, q2⟩
  simp only at q1 q2
  subst q1; subst q2
  simp only [a0l, a0o, bs, a0g]
  exact .some rfl
theorem a4I {α : Type} (A B : List α) (x y : α) (n : Nat) (hn : A.length = n) : (A ++ x :: B).set n y = A ++ y :: B := by
 subst hn
 rw [List.set_append_right _ _ (Nat.le_refl _)]
 simp [-bind_some]
theorem a1T {α : Type} (A B : List α) (x : α) (n : Nat) (hn : A.length = n) : (A ++ x :: B)[n]? = some x := by
 subst hn
 simp [-bind_some]
theorem b4G {g : Hp} {o n : Nat} {rows : List (Str × Str)} {p : Str × Str} (ho : g[o]? = some (.row a0w 2 (rows.map fld))) (hp : rows[n]? = some p) : a0c tab g a0w (.ptr o n 0) = some (.agg (fld p)) := by
 have hr : (rows.map fld)[n]? = some (fld p) := by rw [d5l, hp]; rfl
 rw [b3u, a0V ho, hr]
 rfl
theorem c2C {g : Hp} {o N : Nat} {P X M Y Q : List (Str × Str)} (hN : N ≤ 1000000000) (hlen : (P ++ X ++ M ++ Y ++ Q).length = N) (hxy : X.length = Y.length) (ho : g[o]? = some (.row a0w 2 ((P ++ X ++ M ++ Y ++ Q).map fld))) (cmp : D) (a b k : Int) (ha : a = P.length) (hb : b = (P.length + X.length + M.length : Nat)) (hk : k = X.length) {β : Type} {f : D × Hp → Option β} {R1 : β → Prop}
  (K : ∀ g', g'[o]? = some (.row a0w 2 ((P ++ Y ++ M ++ X ++ Q).map fld)) → Same o g g' → Wp (f (a0i [], g')) R1) : Wp ((R b0u [.msl 2 o 0 N, .int .i64 a, .int .i64 b, .int .i64 k, cmp] g).bind f) R1 := by
 subst ha hb hk
 rw [c8h]
 simp only [c3F, bs, d4X]
 simp only [d5c] at hlen
 refine Wp.loop (fun kk ds g' => ∃ x, ∃ i : Nat, ds = [.int .i64 i, x] ∧ kk + i = X.length ∧ Same o g g' ∧ g'[o]? = some (.row a0w 2 ((P ++ Y.take i ++ X.drop i ++ M ++ X.take i ++ Y.drop i ++ Q).map fld)))
  (fun r => r.1 = .ext 0 ∧ (∃ x y, r.2.1 = [x, y]) ∧ Same o g r.2.2 ∧ r.2.2[o]? = some (.row a0w 2 ((P ++ Y ++ M ++ X ++ Q).map fld))) X.length ⟨_, 0, rfl, rfl, ⟨rfl, fun _ _ => rfl⟩, by simpa using ho⟩ ?_ ?_
 ·rintro kk ds g' ⟨x1, i, rfl, hk, sm, ho'⟩
  simp only [b2m, a0f, a0n, bs, d4X, a0j]
  refine Wp.dif ?_ ?_
  ·intro h0
   have h0 : i < X.length := dl_ h0
   obtain ⟨x, hx⟩ := gx_ h0
   obtain ⟨y, hy⟩ : ∃ y, Y[i]? = some y := ⟨_, d5o (by omega)⟩
   have hdx : X.drop i = x :: X.drop (i + 1) := by
    obtain ⟨hn, hh⟩ := d5p.1 hx
    rw [List.drop_eq_getElem_cons hn, hh]
   have hdy : Y.drop i = y :: Y.drop (i + 1) := by
    obtain ⟨hn, hh⟩ := d5p.1 hy
    rw [List.drop_eq_getElem_cons hn, hh]
   have hw := wi_ i (by omega)
   have wa : IntKind.wrap .i64 ((P.length : Int) + i) = ((P.length + i : Nat) : Int) := by
    rw [wrap_i64 (by omega) (by omega)]; omega
   have wb : IntKind.wrap .i64 (((P.length + X.length + M.length : Nat) : Int) + i) = ((P.length + X.length + M.length + i : Nat) : Int) := by
    rw [wrap_i64 (by omega) (by omega)]; omega
   have e1 : P ++ Y.take i ++ X.drop i ++ M ++ X.take i ++ Y.drop i ++ Q = (P ++ Y.take i) ++ x :: (X.drop (i + 1) ++ M ++ X.take i ++ y :: (Y.drop (i + 1) ++ Q)) := by rw [hdx, hdy]; simp [-bind_some]
   have e2 : (P ++ Y.take i) ++ x :: (X.drop (i + 1) ++ M ++ X.take i ++ y :: (Y.drop (i + 1) ++ Q)) = (P ++ Y.take i ++ x :: (X.drop (i + 1) ++ M ++ X.take i)) ++ y :: (Y.drop (i + 1) ++ Q) := by simp
   have e3 : (P ++ Y.take i) ++ y :: (X.drop (i + 1) ++ M ++ X.take i ++ y :: (Y.drop (i + 1) ++ Q)) = (P ++ Y.take i ++ y :: (X.drop (i + 1) ++ M ++ X.take i)) ++ y :: (Y.drop (i + 1) ++ Q) := by simp
   have e4 : (P ++ Y.take i ++ y :: (X.drop (i + 1) ++ M ++ X.take i)) ++ x :: (Y.drop (i + 1) ++ Q) = P ++ Y.take (i + 1) ++ X.drop (i + 1) ++ M ++ X.take (i + 1) ++ Y.drop (i + 1) ++ Q := by
    rw [d5k, d5k, hx, hy]; simp [-bind_some]
   have n1 : (P ++ Y.take i).length = P.length + i := by simp; omega
   have n2 : ∀ z, (P ++ Y.take i ++ z :: (X.drop (i + 1) ++ M ++ X.take i)).length = P.length + X.length + M.length + i := fun z => by simp; omega
   rw [e1] at ho'
   have la := b4G ho' (a1T _ _ x _ n1)
   have lb := b4G ho' (by rw [e2]; exact a1T _ _ y _ (n2 x))
   have ia : a0b tab a1c (.msl 2 o 0 N) (.int .i64 ((P.length + i : Nat) : Int)) = some (.ptr o (P.length + i) 0) := by rw [a7R, if_pos (by omega), d5h, Nat.zero_add]
   have ib : a0b tab a1c (.msl 2 o 0 N) (.int .i64 ((P.length + X.length + M.length + i : Nat) : Int)) = some (.ptr o (P.length + X.length + M.length + i) 0) := by rw [a7R, if_pos (by omega), d5h, Nat.zero_add]
   simp only [a0u, wa, wb, ia, ib, la, lb, bs, d4X]
   have ra : (((P ++ Y.take i) ++ x :: (X.drop (i + 1) ++ M ++ X.take i ++ y :: (Y.drop (i + 1) ++ Q))).map fld)[P.length + i]? = some (fld x) := by rw [d5l, a1T _ _ x _ n1]; rfl
   refine a5a (off := 0) (row := fld x) (v := .agg (fld y)) ho' ra (by rfl) (by exact Nat.le_refl _) (by rfl) fun g1 p1 w1 => ?_
   have p1 : g1[o]? = some (.row a0w 2 (((P ++ Y.take i ++ y :: (X.drop (i + 1) ++ M ++ X.take i)) ++ y :: (Y.drop (i + 1) ++ Q)).map fld)) := by
    rw [p1, show spl (fld x) 0 (a0z (.agg (fld y))) = fld y from rfl, ← List.map_set, a4I _ _ x y _ n1, e3]
   try simp only [bs]
   have rb : (((P ++ Y.take i ++ y :: (X.drop (i + 1) ++ M ++ X.take i)) ++ y :: (Y.drop (i + 1) ++ Q)).map fld)[P.length + X.length + M.length + i]? = some (fld y) := by rw [d5l, a1T _ _ y _ (n2 y)]; rfl
   refine a5a (off := 0) (row := fld y) (v := .agg (fld x)) p1 rb (by rfl) (by exact Nat.le_refl _) (by rfl) fun g2 p2 w2 => ?_
   have p2 : g2[o]? = some (.row a0w 2 ((P ++ Y.take (i + 1) ++ X.drop (i + 1) ++ M ++ X.take (i + 1) ++ Y.drop (i + 1) ++ Q).map fld)) := by
    rw [p2, show spl (fld y) 0 (a0z (.agg (fld x))) = fld x from rfl, ← List.map_set, a4I _ _ y x _ (n2 y), e4]
   simp only [bs, hw]
   exact .some (.inl ⟨rfl, kk - 1, by omega, _, i + 1, rfl, by omega, (sm.trans w1).trans w2, p2⟩)
  ·intro h0
   have h0 : i = X.length := by
    have : ¬ (i : Int) < X.length := by simpa using h0
    omega
   subst h0
   refine .some (.inr ⟨by simp, rfl, ⟨_, _, rfl⟩, sm, ?_⟩)
   rw [ho', hxy, d5x, List.drop_length, ← hxy, d5x, List.drop_length]
   simp [-bind_some]
 ·rintro ⟨ex, ds, g'⟩ ⟨rfl, ⟨x, y, rfl⟩, sm, p⟩
  simp only [a0l, a2E, bs]
  exact K g' p sm
theorem d2g {g : Hp} {o N : Nat} {P U V Q : List (Str × Str)} (hN : N ≤ 1000000000) (hlen : (P ++ U ++ V ++ Q).length = N) (hU : 0 < U.length) (hV : 0 < V.length) (ho : g[o]? = some (.row a0w 2 ((P ++ U ++ V ++ Q).map fld))) (cmp : D) (a m b : Int) (ha : a = P.length) (hm : m = (P.length + U.length : Nat)) (hb : b = (P.length + U.length + V.length : Nat)) {β : Type} {f : D × Hp → Option β} {R1 : β → Prop}
  (K : ∀ g', g'[o]? = some (.row a0w 2 ((P ++ V ++ U ++ Q).map fld)) → Same o g g' → Wp (f (a0i [], g')) R1) : Wp ((R b5Y [.msl 2 o 0 N, .int .i64 a, .int .i64 m, .int .i64 b, cmp] g).bind f) R1 := by
 obtain ⟨mm, hmm⟩ : ∃ mm : Nat, mm = P.length + U.length := ⟨_, rfl⟩
 rw [← hmm] at hm
 subst ha hm hb
 have hl := hlen
 simp only [d5c] at hl
 have w1 : IntKind.wrap .i64 ((mm : Int) - (P.length : Int)) = (U.length : Int) := by rw [wrap_i64 (by omega) (by omega)]; omega
 have w2 : IntKind.wrap .i64 (((P.length + U.length + V.length : Nat) : Int) - (mm : Int)) = (V.length : Int) := by rw [wrap_i64 (by omega) (by omega)]; omega
 rw [c8g]
 simp only [c3E, bs, d4X, a0B, w1, w2]
 refine Wp.loop (fun kk ds g' => ∃ x y, ∃ P' U' V' Q' : List (Str × Str), ds = [.int .i64 U'.length, .int .i64 V'.length, x, y] ∧ kk = U'.length + V'.length ∧ 0 < U'.length ∧ 0 < V'.length ∧ P'.length + U'.length = mm ∧ P' ++ V' ++ U' ++ Q' = P ++ V ++ U ++ Q ∧ (P' ++ U' ++ V' ++ Q').length = N ∧ Same o g g' ∧ g'[o]? = some (.row a0w 2 ((P' ++ U' ++ V' ++ Q').map fld)))
  (fun r => r.1 = .ext 0 ∧ ∃ x y, ∃ P' U' V' Q' : List (Str × Str), r.2.1 = [.int .i64 U'.length, .int .i64 V'.length, x, y] ∧ U'.length = V'.length ∧ P'.length + U'.length = mm ∧ P' ++ V' ++ U' ++ Q' = P ++ V ++ U ++ Q ∧ (P' ++ U' ++ V' ++ Q').length = N ∧ Same o g r.2.2 ∧ r.2.2[o]? = some (.row a0w 2 ((P' ++ U' ++ V' ++ Q').map fld)))
  (U.length + V.length) ⟨_, _, P, U, V, Q, rfl, rfl, hU, hV, by omega, rfl, hlen, ⟨rfl, fun _ _ => rfl⟩, ho⟩ ?_ ?_
 ·rintro kk ds g' ⟨x, y, P', U', V', Q', rfl, hk, h1, h2, h3, h4, h5, sm, ho'⟩
  have hl' := h5
  simp only [d5c] at hl'
  simp only [b2l, a0f, a0n, bs, d4X, a0t]
  refine Wp.dif ?_ ?_
  ·intro h0
   have h0 : U'.length ≠ V'.length := by
    have : ¬ (U'.length : Int) = V'.length := by simpa using h0
    omega
   simp only [a0v, bs]
   have wi : IntKind.wrap .i64 ((mm : Int) - (U'.length : Int)) = (P'.length : Int) := by rw [wrap_i64 (by omega) (by omega)]; omega
   by_cases hgt : V'.length < U'.length
   ·have hd : decide ((U'.length : Int) > (V'.length : Int)) = true := decide_eq_true (by omega)
    obtain ⟨X, M, hXM, hXl⟩ : ∃ X M, U' = X ++ M ∧ X.length = V'.length := ⟨U'.take V'.length, U'.drop V'.length, (List.take_append_drop _ _).symm, by simp; omega⟩
    subst hXM
    simp only [d5c] at *
    have wd : IntKind.wrap .i64 (((X.length + M.length : Nat) : Int) - (V'.length : Int)) = (M.length : Int) := by rw [wrap_i64 (by omega) (by omega)]; omega
    simp only [hd, a0d, if_true, a0B, wi, wd, bs, d4X]
    refine c2C (P := P') (X := X) (M := M) (Y := V') (Q := Q') hN (by simp only [d5c]; omega) hXl (by simpa using ho') cmp _ _ _ rfl (by omega) (by omega) fun g1 p1 s1' => ?_
    simp only [bs, a1t, a0f, a0n]
    rw [← hXl]
    refine .some (.inl ⟨rfl, M.length + X.length, by omega, _, _, P' ++ V', M, X, Q', rfl, rfl, by omega, by omega, by simp only [d5c]; omega, by rw [← h4]; simp [-bind_some], by simp only [d5c]; omega, sm.trans s1', by rw [p1]⟩)
   ·have hd : decide ((U'.length : Int) > (V'.length : Int)) = false := decide_eq_false (by omega)
    obtain ⟨M, Y, hMY, hYl⟩ : ∃ M Y, V' = M ++ Y ∧ Y.length = U'.length := ⟨V'.take (V'.length - U'.length), V'.drop (V'.length - U'.length), (List.take_append_drop _ _).symm, by simp; omega⟩
    subst hMY
    simp only [d5c] at *
    have we : IntKind.wrap .i64 ((mm : Int) + ((M.length + Y.length : Nat) : Int)) = ((mm + (M.length + Y.length) : Nat) : Int) := by rw [wrap_i64 (by omega) (by omega)]; omega
    have wf' : IntKind.wrap .i64 (((mm + (M.length + Y.length) : Nat) : Int) - (U'.length : Int)) = ((P'.length + U'.length + M.length : Nat) : Int) := by rw [wrap_i64 (by omega) (by omega)]; omega
    have wd : IntKind.wrap .i64 (((M.length + Y.length : Nat) : Int) - (U'.length : Int)) = (M.length : Int) := by rw [wrap_i64 (by omega) (by omega)]; omega
    simp only [hd, a0d, d4Y, if_false, a0B, a0u, wi, we, wf', wd, bs, d4X]
    refine c2C (P := P') (X := U') (M := M) (Y := Y) (Q := Q') hN (by simp only [d5c]; omega) hYl.symm (by simpa using ho') cmp _ _ _ rfl rfl rfl fun g1 p1 s1' => ?_
    simp only [bs, a1t, a0f, a0n]
    rw [← hYl]
    refine .some (.inl ⟨rfl, Y.length + M.length, by omega, _, _, P', Y, M, U' ++ Q', rfl, rfl, by omega, by omega, by omega, by rw [← h4]; simp [-bind_some], by simp only [d5c]; omega, sm.trans s1', by rw [p1]; simp [-bind_some]⟩)
  ·intro h0
   have h0 : U'.length = V'.length := by
    have : (U'.length : Int) = V'.length := by simpa using h0
    omega
   exact .some (.inr ⟨by simp, rfl, _, _, P', U', V', Q', rfl, h0, h3, h4, h5, sm, ho'⟩)
 ·rintro ⟨ex, ds, g'⟩ ⟨rfl, x, y, P', U', V', Q', rfl, h0, h3, h4, h5, sm, ho'⟩
  have hl' := h5
  simp only [d5c] at hl'
  have wi : IntKind.wrap .i64 ((mm : Int) - (U'.length : Int)) = (P'.length : Int) := by rw [wrap_i64 (by omega) (by omega)]; omega
  simp only [a0l, a0o, a0f, a0n, bs, d4X, a0B, wi]
  refine c2C (P := P') (X := U') (M := []) (Y := V') (Q := Q') hN (by simp only [d5c, d5r]; omega) h0 (by simpa using ho') cmp _ _ _ rfl (by simp only [d5r]; omega) rfl fun g1 p1 s1' => ?_
  simp only [bs]
  refine K g1 ?_ (sm.trans s1')
  rw [p1, ← h4]
  simp [-bind_some]
theorem c2t {g : Hp} {o : Nat} {A B : List (Str × Str)} {x y : Str × Str} {n : Nat} (hn : A.length = n) (ho : g[o]? = some (.row a0w 2 ((A ++ x :: y :: B).map fld))) {β : Type} {f : Hp → Option β} {Q : β → Prop}
  (K : ∀ g', g'[o]? = some (.row a0w 2 ((A ++ y :: x :: B).map fld)) → Same o g g' → Wp (f g') Q) : Wp ((a0h tab g a0w (.ptr o n 0) (.agg (fld y))).bind fun g1 => (a0h tab g1 a0w (.ptr o (n + 1) 0) (.agg (fld x))).bind f) Q := by
 have ra : ((A ++ x :: y :: B).map fld)[n]? = some (fld x) := by rw [d5l, a1T _ _ x _ hn]; rfl
 refine a5a (off := 0) (row := fld x) (v := .agg (fld y)) ho ra (by rfl) (by exact Nat.le_refl _) (by rfl) fun g1 p1 w1 => ?_
 have e1 : A ++ y :: y :: B = (A ++ [y]) ++ y :: B := by simp
 have n1 : (A ++ [y]).length = n + 1 := by simp [-bind_some, hn]
 have p1 : g1[o]? = some (.row a0w 2 (((A ++ [y]) ++ y :: B).map fld)) := by
  rw [p1, show spl (fld x) 0 (a0z (.agg (fld y))) = fld y from rfl, ← List.map_set, a4I _ _ x y _ hn, e1]
 have rb : (((A ++ [y]) ++ y :: B).map fld)[n + 1]? = some (fld y) := by rw [d5l, a1T _ _ y _ n1]; rfl
 refine a5a (off := 0) (row := fld y) (v := .agg (fld x)) p1 rb (by rfl) (by exact Nat.le_refl _) (by rfl) fun g2 p2 w2 => ?_
 refine K g2 ?_ (w1.trans w2)
 rw [p2, show spl (fld y) 0 (a0z (.agg (fld x))) = fld x from rfl, ← List.map_set, a4I _ _ y x _ n1]
 simp [-bind_some]
theorem b9G {g : Hp} {o : Nat} {A B : List (Str × Str)} {x y : Str × Str} {n : Nat} (hn : A.length = n) (ho : g[o]? = some (.row a0w 2 ((A ++ x :: y :: B).map fld))) {β : Type} {f : Hp → Option β} {Q : β → Prop}
  (K : ∀ g', g'[o]? = some (.row a0w 2 ((A ++ y :: x :: B).map fld)) → Same o g g' → Wp (f g') Q) : Wp ((a0h tab g a0w (.ptr o (n + 1) 0) (.agg (fld x))).bind fun g1 => (a0h tab g1 a0w (.ptr o n 0) (.agg (fld y))).bind f) Q := by
 have e1 : A ++ x :: y :: B = (A ++ [x]) ++ y :: B := by simp
 have n1 : (A ++ [x]).length = n + 1 := by simp [-bind_some, hn]
 rw [e1] at ho
 have rb : (((A ++ [x]) ++ y :: B).map fld)[n + 1]? = some (fld y) := by rw [d5l, a1T _ _ y _ n1]; rfl
 refine a5a (off := 0) (row := fld y) (v := .agg (fld x)) ho rb (by rfl) (by exact Nat.le_refl _) (by rfl) fun g1 p1 w1 => ?_
 have p1 : g1[o]? = some (.row a0w 2 ((A ++ x :: x :: B).map fld)) := by
  rw [p1, show spl (fld y) 0 (a0z (.agg (fld x))) = fld x from rfl, ← List.map_set, a4I _ _ y x _ n1]
  simp [-bind_some]
 have ra : ((A ++ x :: x :: B).map fld)[n]? = some (fld x) := by rw [d5l, a1T _ _ x _ hn]; rfl
 refine a5a (off := 0) (row := fld x) (v := .agg (fld y)) p1 ra (by rfl) (by exact Nat.le_refl _) (by rfl) fun g2 p2 w2 => ?_
 refine K g2 ?_ (w1.trans w2)
 rw [p2, show spl (fld x) 0 (a0z (.agg (fld y))) = fld y from rfl, ← List.map_set, a4I _ _ x y _ hn]
theorem a7Q {o N n : Nat} (h : n < N) : a0b tab a1c (.msl 2 o 0 N) (.int .i64 (n : Int)) = some (.ptr o n 0) := by rw [a7R, if_pos (by omega), d5h, Nat.zero_add]
theorem wL4 {g : Hp} {o N : Nat} {P A Q : List (Str × Str)} {x : Str × Str} (hN : N ≤ 1000000000) (hlen : (P ++ x :: A ++ Q).length = N) (ho : g[o]? = some (.row a0w 2 ((P ++ x :: A ++ Q).map fld))) (r14 : Out) (hr : nth 0 r14.2.1 = .int .i64 ((P.length + A.length + 1 : Nat) : Int)) (a : Int) (ha : a = P.length) (x1 : D) {β : Type} {f : Out → Option β} {R1 : β → Prop}
  (K : ∀ g' b1 b2, g'[o]? = some (.row a0w 2 ((P ++ A ++ x :: Q).map fld)) → Same o g g' → Wp (f (.ext 2, [b1, b2], g')) R1) : Wp ((a0I (a8P (.msl 2 o 0 N) r14) [.int .i64 a, x1] g).bind f) R1 := by
 subst ha
 simp only [d5c, d5q] at hlen
 refine Wp.loop (fun kk ds g' => ∃ y, ∃ i : Nat, ds = [.int .i64 ((P.length + i : Nat) : Int), y] ∧ kk + i = A.length ∧ Same o g g' ∧ g'[o]? = some (.row a0w 2 ((P ++ A.take i ++ x :: (A.drop i ++ Q)).map fld)))
  (fun r => r.1 = .ext 2 ∧ (∃ b1 b2, r.2.1 = [b1, b2]) ∧ Same o g r.2.2 ∧ r.2.2[o]? = some (.row a0w 2 ((P ++ A ++ x :: Q).map fld))) A.length ⟨_, 0, rfl, rfl, ⟨rfl, fun _ _ => rfl⟩, by simpa using ho⟩ ?_ ?_
 ·rintro kk ds g' ⟨y1, i, rfl, hk, sm, ho'⟩
  have w0 : IntKind.wrap .i64 (((P.length + A.length + 1 : Nat) : Int) - 1) = ((P.length + A.length : Nat) : Int) := by rw [wrap_i64 (by omega) (by omega)]; omega
  simp only [a8P, a0f, a0n, bs, d4X, hr, a0B, w0, a0j]
  refine Wp.dif ?_ ?_
  ·intro h0
   have h0 : i < A.length := by
    have : ((P.length + i : Nat) : Int) < ((P.length + A.length : Nat) : Int) := by simpa using h0
    omega
   obtain ⟨y, hy⟩ := gx_ h0
   have hdy : A.drop i = y :: A.drop (i + 1) := by
    obtain ⟨hn, hh⟩ := d5p.1 hy
    rw [List.drop_eq_getElem_cons hn, hh]
   have hw : IntKind.wrap .i64 (((P.length + i : Nat) : Int) + 1) = ((P.length + i + 1 : Nat) : Int) := by
    rw [wrap_i64 (by omega) (by omega)]; omega
   have e1 : P ++ A.take i ++ x :: (A.drop i ++ Q) = (P ++ A.take i) ++ x :: y :: (A.drop (i + 1) ++ Q) := by rw [hdy]; simp [-bind_some]
   have e2 : (P ++ A.take i ++ [x]) ++ y :: (A.drop (i + 1) ++ Q) = (P ++ A.take i) ++ x :: y :: (A.drop (i + 1) ++ Q) := by simp
   have n1 : (P ++ A.take i).length = P.length + i := by simp; omega
   have n2 : (P ++ A.take i ++ [x]).length = P.length + i + 1 := by simp; omega
   rw [e1] at ho'
   have la := b4G ho' (a1T _ _ x _ n1)
   have lb := b4G ho' (by rw [← e2]; exact a1T _ _ y _ n2)
   have ia := @a7Q o N (P.length + i) (by omega)
   have ib := @a7Q o N (P.length + i + 1) (by omega)
   simp only [a0u, hw, ia, ib, la, lb, bs, d4X]
   refine c2t n1 ho' fun g2 p2 w2 => ?_
   try simp only [bs]
   refine .some (.inl ⟨rfl, kk - 1, by omega, _, i + 1, rfl, by omega, sm.trans w2, ?_⟩)
   rw [p2, d5k, hy]
   simp [-bind_some]
  ·intro h0
   have h0 : i = A.length := by
    have : ¬ ((P.length + i : Nat) : Int) < ((P.length + A.length : Nat) : Int) := by simpa using h0
    omega
   subst h0
   rw [d5x, List.drop_length] at ho'
   exact .some (.inr ⟨by simp, rfl, ⟨_, _, rfl⟩, sm, by simpa using ho'⟩)
 ·rintro ⟨ex, ds, g'⟩ ⟨rfl, ⟨b1, b2, rfl⟩, sm, p⟩
  exact K g' b1 b2 p sm
theorem wL2 {g : Hp} {o N : Nat} {P A Q : List (Str × Str)} {x : Str × Str} (hN : N ≤ 1000000000) (hlen : (P ++ A ++ x :: Q).length = N) (ho : g[o]? = some (.row a0w 2 ((P ++ A ++ x :: Q).map fld))) (r9 : Out) (hr : nth 0 r9.2.1 = .int .i64 (P.length : Int)) (m : Int) (hm : m = (P.length + A.length : Nat)) (x1 : D) {β : Type} {f : Out → Option β} {R1 : β → Prop}
  (K : ∀ g' b1 b2, g'[o]? = some (.row a0w 2 ((P ++ x :: A ++ Q).map fld)) → Same o g g' → Wp (f (.ext 6, [b1, b2], g')) R1) : Wp ((a0I (a8N (.msl 2 o 0 N) r9) [.int .i64 m, x1] g).bind f) R1 := by
 subst hm
 simp only [d5c, d5q] at hlen
 refine Wp.loop (fun kk ds g' => ∃ y, ds = [.int .i64 ((P.length + kk : Nat) : Int), y] ∧ kk ≤ A.length ∧ Same o g g' ∧ g'[o]? = some (.row a0w 2 ((P ++ A.take kk ++ x :: (A.drop kk ++ Q)).map fld)))
  (fun r => r.1 = .ext 6 ∧ (∃ b1 b2, r.2.1 = [b1, b2]) ∧ Same o g r.2.2 ∧ r.2.2[o]? = some (.row a0w 2 ((P ++ x :: A ++ Q).map fld))) A.length ⟨_, rfl, Nat.le_refl _, ⟨rfl, fun _ _ => rfl⟩, by simpa using ho⟩ ?_ ?_
 ·rintro kk ds g' ⟨y1, rfl, hk, sm, ho'⟩
  simp only [a8N, a0f, a0n, bs, d4X, hr, a0v]
  refine Wp.dif ?_ ?_
  ·intro h0
   have h0 : 0 < kk := by
    have : ((P.length + kk : Nat) : Int) > (P.length : Int) := by simpa using h0
    omega
   obtain ⟨i, rfl⟩ : ∃ i, kk = i + 1 := ⟨kk - 1, by omega⟩
   obtain ⟨y, hy⟩ : ∃ y, A[i]? = some y := ⟨_, d5o (by omega)⟩
   have hdy : A.drop i = y :: A.drop (i + 1) := by
    obtain ⟨hn, hh⟩ := d5p.1 hy
    rw [List.drop_eq_getElem_cons hn, hh]
   have hw : IntKind.wrap .i64 (((P.length + (i + 1) : Nat) : Int) - 1) = ((P.length + i : Nat) : Int) := by
    rw [wrap_i64 (by omega) (by omega)]; omega
   have e1 : P ++ A.take (i + 1) ++ x :: (A.drop (i + 1) ++ Q) = (P ++ A.take i) ++ y :: x :: (A.drop (i + 1) ++ Q) := by rw [d5k, hy]; simp [-bind_some]
   have e2 : (P ++ A.take i ++ [y]) ++ x :: (A.drop (i + 1) ++ Q) = (P ++ A.take i) ++ y :: x :: (A.drop (i + 1) ++ Q) := by simp
   have n1 : (P ++ A.take i).length = P.length + i := by simp; omega
   have n2 : (P ++ A.take i ++ [y]).length = P.length + i + 1 := by simp; omega
   rw [e1] at ho'
   have la := b4G ho' (a1T _ _ y _ n1)
   have lb := b4G ho' (by rw [← e2]; exact a1T _ _ x _ n2)
   have ia := @a7Q o N (P.length + i) (by omega)
   have ib := @a7Q o N (P.length + (i + 1)) (by omega)
   rw [show P.length + (i + 1) = P.length + i + 1 from rfl] at hw ib ⊢
   simp only [a0B, hw, ia, ib, la, lb, bs, d4X]
   refine b9G n1 ho' fun g2 p2 w2 => ?_
   try simp only [bs]
   refine .some (.inl ⟨rfl, i, by omega, _, rfl, by omega, sm.trans w2, ?_⟩)
   rw [p2, hdy]
   simp [-bind_some]
  ·intro h0
   have h0 : kk = 0 := by
    have : ¬ ((P.length + kk : Nat) : Int) > (P.length : Int) := by simpa using h0
    omega
   subst h0
   exact .some (.inr ⟨by simp, rfl, ⟨_, _, rfl⟩, sm, by simpa using ho'⟩)
 ·rintro ⟨ex, ds, g'⟩ ⟨rfl, ⟨b1, b2, rfl⟩, sm, p⟩
  exact K g' b1 b2 p sm
theorem b3y {i j : Nat} (hi : i ≤ 1000000000) (hj : j ≤ 1000000000) : IntKind.wrap .i64 ((i : Int) + j) = ((i + j : Nat) : Int) ∧ IntKind.wrap .u64 ((i + j : Nat) : Int) = ((i + j : Nat) : Int) ∧ (((i + j : Nat) : Int)).fdiv (2 ^ min ((1 : Int).toNat) IntKind.u64.bits) = (((i + j) / 2 : Nat) : Int) ∧ IntKind.wrap .i64 (((i + j) / 2 : Nat) : Int) = (((i + j) / 2 : Nat) : Int) := by
 have m1 : min ((1 : Int).toNat) IntKind.u64.bits = 1 := by decide
 have p1 : (2 : Int) ^ 1 = 2 := by decide
 refine ⟨?_, a1j (by omega) (by omega), ?_, wrap_i64 (by omega) (by omega)⟩
 ·rw [wrap_i64 (by omega) (by omega)]; omega
 ·rw [m1, p1, Int.fdiv_eq_ediv_of_nonneg _ (by omega)]; omega
theorem wL3 {g : Hp} {o N : Nat} {L : List (Str × Str)} (hN : N ≤ 1000000000) (hlen : L.length = N) (ho : g[o]? = some (.row a0w 2 (L.map fld))) (cmp : D) (a m b : Nat) (q : Nat → Prop) (ha : a < N) (hmb : m ≤ b) (hbN : b ≤ N) (x : Str × Str) (hx : L[a]? = some x)
  (hc : ∀ t y, m ≤ t → t < b → L[t]? = some y → ∃ v, a4m R cmp [.agg (fld y), .agg (fld x)] g = some (.int .i64 v, g) ∧ (v < 0 ↔ q t)) (x1 x2 x3 : D) {β : Type} {f : Out → Option β} {Q : β → Prop}
  (K : ∀ (c : Nat) b1 b2 b3, m ≤ c → c ≤ b → (c = m ∨ q (c - 1)) → (c = b ∨ ¬ q c) → Wp (f (.ext 0, [.int .i64 (c : Int), .int .i64 (c : Int), b1, b2, b3], g)) Q) : Wp ((a0I (a8O (.msl 2 o 0 N) (.int .i64 (a : Int)) cmp) [.int .i64 (m : Int), .int .i64 (b : Int), x1, x2, x3] g).bind f) Q := by
 refine Wp.loop (fun kk ds g' => g' = g ∧ ∃ y1 y2 y3, ∃ i j : Nat, ds = [.int .i64 (i : Int), .int .i64 (j : Int), y1, y2, y3] ∧ kk = j - i ∧ m ≤ i ∧ i ≤ j ∧ j ≤ b ∧ (i = m ∨ q (i - 1)) ∧ (j = b ∨ ¬ q j))
  (fun r => r.1 = .ext 0 ∧ r.2.2 = g ∧ ∃ b1 b2 b3, ∃ c : Nat, r.2.1 = [.int .i64 (c : Int), .int .i64 (c : Int), b1, b2, b3] ∧ m ≤ c ∧ c ≤ b ∧ (c = m ∨ q (c - 1)) ∧ (c = b ∨ ¬ q c)) (b - m) ⟨rfl, _, _, _, m, b, rfl, rfl, Nat.le_refl _, hmb, Nat.le_refl _, .inl rfl, .inl rfl⟩ ?_ ?_
 ·rintro kk ds g' ⟨rfl, y1, y2, y3, i, j, rfl, hk, h1, h2, h3, h4, h5⟩
  simp only [a8O, a0f, a0n, bs, d4X, a0j]
  refine Wp.dif ?_ ?_
  ·intro h0
   have h0 : i < j := by
    have : (i : Int) < (j : Int) := by simpa using h0
    omega
   obtain ⟨u1, u2, u3, u4⟩ := @b3y i j (by omega) (by omega)
   obtain ⟨y, hy⟩ : ∃ y, L[(i + j) / 2]? = some y := ⟨_, d5o (by omega)⟩
   obtain ⟨v, hv, hvc⟩ := hc ((i + j) / 2) y (by omega) (by omega) hy
   have ia := @a7Q o N ((i + j) / 2) (by omega)
   have ib := @a7Q o N a ha
   have la := b4G ho hy
   have lb := b4G ho hx
   have w1 : IntKind.wrap .i64 ((((i + j) / 2 : Nat) : Int) + 1) = (((i + j) / 2 + 1 : Nat) : Int) := by rw [wrap_i64 (by omega) (by omega)]; omega
   simp only [a0u, u1, a7i, u2, a2n, show ¬ (1 : Int) < 0 by omega, if_false, u3, a8Z, u4, ia, ib, la, lb, hv, bs, a0j, d4X]
   by_cases hlt : v < 0
   ·have := hvc.1 hlt
    simp only [hlt, decide_true, a0d, if_true, w1, bs, a1t, a0f, a0n]
    exact .some (.inl ⟨rfl, j - ((i + j) / 2 + 1), by omega, rfl, _, _, _, _, _, rfl, rfl, by omega, by omega, by omega, .inr (by simpa using this), h5⟩)
   ·have := fun h => hlt (hvc.2 h)
    simp only [hlt, decide_false, a0d, d4Y, if_false, bs, a1t, a0f, a0n]
    exact .some (.inl ⟨rfl, (i + j) / 2 - i, by omega, rfl, _, _, _, _, _, rfl, rfl, by omega, by omega, by omega, h4, .inr this⟩)
  ·intro h0
   have h0 : ¬ i < j := by
    have : ¬ (i : Int) < (j : Int) := by simpa using h0
    omega
   obtain rfl : j = i := by omega
   exact .some (.inr ⟨by simp, rfl, rfl, _, _, _, j, rfl, h1, h3, h4, h5⟩)
 ·rintro ⟨ex, ds, g'⟩ ⟨rfl, q2, b1, b2, b3, c, rfl, k1, k2, k3, k4⟩
  simp only at q2
  subst q2
  exact K c b1 b2 b3 k1 k2 k3 k4
theorem wL1 {g : Hp} {o N : Nat} {L : List (Str × Str)} (hN : N ≤ 1000000000) (hlen : L.length = N) (ho : g[o]? = some (.row a0w 2 (L.map fld))) (cmp : D) (m a b : Nat) (q : Nat → Prop) (hmN : m < N) (hmb : a ≤ b) (hbN : b ≤ N) (x : Str × Str) (hx : L[m]? = some x)
  (hc : ∀ t y, a ≤ t → t < b → L[t]? = some y → ∃ v, a4m R cmp [.agg (fld x), .agg (fld y)] g = some (.int .i64 v, g) ∧ (¬ v < 0 ↔ q t)) (x1 x2 x3 : D) {β : Type} {f : Out → Option β} {Q : β → Prop}
  (K : ∀ (c : Nat) b1 b2 b3, a ≤ c → c ≤ b → (c = a ∨ q (c - 1)) → (c = b ∨ ¬ q c) → Wp (f (.ext 4, [.int .i64 (c : Int), .int .i64 (c : Int), b1, b2, b3], g)) Q) : Wp ((a0I (a8M (.msl 2 o 0 N) (.int .i64 (m : Int)) cmp) [.int .i64 (a : Int), .int .i64 (b : Int), x1, x2, x3] g).bind f) Q := by
 refine Wp.loop (fun kk ds g' => g' = g ∧ ∃ y1 y2 y3, ∃ i j : Nat, ds = [.int .i64 (i : Int), .int .i64 (j : Int), y1, y2, y3] ∧ kk = j - i ∧ a ≤ i ∧ i ≤ j ∧ j ≤ b ∧ (i = a ∨ q (i - 1)) ∧ (j = b ∨ ¬ q j))
  (fun r => r.1 = .ext 4 ∧ r.2.2 = g ∧ ∃ b1 b2 b3, ∃ c : Nat, r.2.1 = [.int .i64 (c : Int), .int .i64 (c : Int), b1, b2, b3] ∧ a ≤ c ∧ c ≤ b ∧ (c = a ∨ q (c - 1)) ∧ (c = b ∨ ¬ q c)) (b - a) ⟨rfl, _, _, _, a, b, rfl, rfl, Nat.le_refl _, hmb, Nat.le_refl _, .inl rfl, .inl rfl⟩ ?_ ?_
 ·rintro kk ds g' ⟨rfl, y1, y2, y3, i, j, rfl, hk, h1, h2, h3, h4, h5⟩
  simp only [a8M, a0f, a0n, bs, d4X, a0j]
  refine Wp.dif ?_ ?_
  ·intro h0
   have h0 : i < j := by
    have : (i : Int) < (j : Int) := by simpa using h0
    omega
   obtain ⟨u1, u2, u3, u4⟩ := @b3y i j (by omega) (by omega)
   obtain ⟨y, hy⟩ : ∃ y, L[(i + j) / 2]? = some y := ⟨_, d5o (by omega)⟩
   obtain ⟨v, hv, hvc⟩ := hc ((i + j) / 2) y (by omega) (by omega) hy
   have ia := @a7Q o N ((i + j) / 2) (by omega)
   have ib := @a7Q o N m hmN
   have la := b4G ho hy
   have lb := b4G ho hx
   have w1 : IntKind.wrap .i64 ((((i + j) / 2 : Nat) : Int) + 1) = (((i + j) / 2 + 1 : Nat) : Int) := by rw [wrap_i64 (by omega) (by omega)]; omega
   simp only [a0u, u1, a7i, u2, a2n, show ¬ (1 : Int) < 0 by omega, if_false, u3, a8Z, u4, ia, ib, la, lb, hv, bs, a0j, a1m, d4X]
   by_cases hlt : v < 0
   ·have := fun h => (hvc.2 h) hlt
    simp only [hlt, decide_true, d5i, a0d, d4Y, if_false, bs, a1t, a0f, a0n]
    exact .some (.inl ⟨rfl, (i + j) / 2 - i, by omega, rfl, _, _, _, _, _, rfl, rfl, by omega, by omega, by omega, h4, .inr this⟩)
   ·have := hvc.1 hlt
    simp only [hlt, decide_false, d5j, a0d, if_true, w1, bs, a1t, a0f, a0n]
    exact .some (.inl ⟨rfl, j - ((i + j) / 2 + 1), by omega, rfl, _, _, _, _, _, rfl, rfl, by omega, by omega, by omega, .inr (by simpa using this), h5⟩)
  ·intro h0
   have h0 : ¬ i < j := by
    have : ¬ (i : Int) < (j : Int) := by simpa using h0
    omega
   obtain rfl : j = i := by omega
   exact .some (.inr ⟨by simp, rfl, rfl, _, _, _, j, rfl, h1, h3, h4, h5⟩)
 ·rintro ⟨ex, ds, g'⟩ ⟨rfl, q2, b1, b2, b3, c, rfl, k1, k2, k3, k4⟩
  simp only at q2
  subst q2
  exact K c b1 b2 b3 k1 k2 k3 k4
theorem wL0 {g : Hp} {o N : Nat} {L : List (Str × Str)} (hN : N ≤ 1000000000) (hlen : L.length = N) (ho : g[o]? = some (.row a0w 2 (L.map fld))) (cmp : D) (p a b : Nat) (q : Nat → Prop) (hmb : a ≤ b) (hbp : b ≤ p + 1) (hbN : b ≤ N) (hpN : p < a + N)
  (hc : ∀ t y z, a ≤ t → t < b → L[t]? = some y → L[p - t]? = some z → ∃ v, a4m R cmp [.agg (fld z), .agg (fld y)] g = some (.int .i64 v, g) ∧ (¬ v < 0 ↔ q t)) (x1 x2 x3 : D) {β : Type} {f : Out → Option β} {Q : β → Prop}
  (K : ∀ (c : Nat) b1 b2 b3, a ≤ c → c ≤ b → (c = a ∨ q (c - 1)) → (c = b ∨ ¬ q c) → Wp (f (.ext 8, [.int .i64 (c : Int), .int .i64 (c : Int), b1, b2, b3], g)) Q) : Wp ((a0I (a6H (.msl 2 o 0 N) cmp (.int .i64 (p : Int))) [.int .i64 (a : Int), .int .i64 (b : Int), x1, x2, x3] g).bind f) Q := by
 refine Wp.loop (fun kk ds g' => g' = g ∧ ∃ y1 y2 y3, ∃ i j : Nat, ds = [.int .i64 (i : Int), .int .i64 (j : Int), y1, y2, y3] ∧ kk = j - i ∧ a ≤ i ∧ i ≤ j ∧ j ≤ b ∧ (i = a ∨ q (i - 1)) ∧ (j = b ∨ ¬ q j))
  (fun r => r.1 = .ext 8 ∧ r.2.2 = g ∧ ∃ b1 b2 b3, ∃ c : Nat, r.2.1 = [.int .i64 (c : Int), .int .i64 (c : Int), b1, b2, b3] ∧ a ≤ c ∧ c ≤ b ∧ (c = a ∨ q (c - 1)) ∧ (c = b ∨ ¬ q c)) (b - a) ⟨rfl, _, _, _, a, b, rfl, rfl, Nat.le_refl _, hmb, Nat.le_refl _, .inl rfl, .inl rfl⟩ ?_ ?_
 ·rintro kk ds g' ⟨rfl, y1, y2, y3, i, j, rfl, hk, h1, h2, h3, h4, h5⟩
  simp only [a6H, a0f, a0n, bs, d4X, a0j]
  refine Wp.dif ?_ ?_
  ·intro h0
   have h0 : i < j := by
    have : (i : Int) < (j : Int) := by simpa using h0
    omega
   obtain ⟨u1, u2, u3, u4⟩ := @b3y i j (by omega) (by omega)
   obtain ⟨y, hy⟩ : ∃ y, L[(i + j) / 2]? = some y := ⟨_, d5o (by omega)⟩
   obtain ⟨z, hz⟩ : ∃ z, L[p - (i + j) / 2]? = some z := ⟨_, d5o (by omega)⟩
   obtain ⟨v, hv, hvc⟩ := hc ((i + j) / 2) y z (by omega) (by omega) hy hz
   have ia := @a7Q o N ((i + j) / 2) (by omega)
   have ib := @a7Q o N (p - (i + j) / 2) (by omega)
   have la := b4G ho hy
   have lb := b4G ho hz
   have wp' : IntKind.wrap .i64 ((p : Int) - (((i + j) / 2 : Nat) : Int)) = ((p - (i + j) / 2 : Nat) : Int) := by rw [wrap_i64 (by omega) (by omega)]; omega
   have w1 : IntKind.wrap .i64 ((((i + j) / 2 : Nat) : Int) + 1) = (((i + j) / 2 + 1 : Nat) : Int) := by rw [wrap_i64 (by omega) (by omega)]; omega
   simp only [a0u, u1, a7i, u2, a2n, show ¬ (1 : Int) < 0 by omega, if_false, u3, a8Z, u4, a0B, wp', ia, ib, la, lb, hv, bs, a0j, a1m, d4X]
   by_cases hlt : v < 0
   ·have := fun h => (hvc.2 h) hlt
    simp only [hlt, decide_true, d5i, a0d, d4Y, if_false, bs, a1t, a0f, a0n]
    exact .some (.inl ⟨rfl, (i + j) / 2 - i, by omega, rfl, _, _, _, _, _, rfl, rfl, by omega, by omega, by omega, h4, .inr this⟩)
   ·have := hvc.1 hlt
    simp only [hlt, decide_false, d5j, a0d, if_true, w1, bs, a1t, a0f, a0n]
    exact .some (.inl ⟨rfl, j - ((i + j) / 2 + 1), by omega, rfl, _, _, _, _, _, rfl, rfl, by omega, by omega, by omega, .inr (by simpa using this), h5⟩)
  ·intro h0
   have h0 : ¬ i < j := by
    have : ¬ (i : Int) < (j : Int) := by simpa using h0
    omega
   obtain rfl : j = i := by omega
   exact .some (.inr ⟨by simp, rfl, rfl, _, _, _, j, rfl, h1, h3, h4, h5⟩)
 ·rintro ⟨ex, ds, g'⟩ ⟨rfl, q2, b1, b2, b3, c, rfl, k1, k2, k3, k4⟩
  simp only at q2
  subst q2
  exact K c b1 b2 b3 k1 k2 k3 k4
def b9N (cmp : D) (c : Str × Str → Str × Str → Int) : Prop := ∀ x y g, a4m R cmp [.agg (fld x), .agg (fld y)] g = some (.int .i64 (c x y), g)
theorem c6z {g : Hp} {o N : Nat} {P B Q : List (Str × Str)} {x : Str × Str} (hN : N ≤ 1000000000) (hlen : (P ++ x :: B ++ Q).length = N) (ho : g[o]? = some (.row a0w 2 ((P ++ x :: B ++ Q).map fld))) (cmp : D) (c : Str × Str → Str × Str → Int) (hcmp : b9N cmp c) (a m b : Int) (ha : a = (P.length : Nat)) (hm : m = (P.length + 1 : Nat)) (hb : b = (P.length + 1 + B.length : Nat)) {β : Type} {f : D × Hp → Option β} {R1 : β → Prop}
  (K : ∀ g' B1 B2, B = B1 ++ B2 → (B1 = [] ∨ ∃ y r, B1 = r ++ [y] ∧ c y x < 0) → (B2 = [] ∨ ∃ y r, B2 = y :: r ∧ ¬ c y x < 0) → g'[o]? = some (.row a0w 2 ((P ++ (B1 ++ x :: B2) ++ Q).map fld)) → Same o g g' → Wp (f (a0i [], g')) R1) : Wp ((R a6x [.msl 2 o 0 N, .int .i64 a, .int .i64 m, .int .i64 b, cmp] g).bind f) R1 := by
 subst ha hm hb
 have hl := hlen
 simp only [d5c, d5q] at hl
 have w1 : IntKind.wrap .i64 (((P.length + 1 : Nat) : Int) - (P.length : Int)) = 1 := by rw [wrap_i64 (by omega) (by omega)]; omega
 have gx : (P ++ x :: B ++ Q)[P.length]? = some x := by
  rw [show P ++ x :: B ++ Q = P ++ x :: (B ++ Q) by simp]
  exact a1T _ _ x _ rfl
 have gB : ∀ t, (P ++ x :: B ++ Q)[P.length + 1 + t]? = (B ++ Q)[t]? := fun t => by
  rw [show P ++ x :: B ++ Q = (P ++ [x]) ++ (B ++ Q) by simp, List.getElem?_append_right (by simp)]
  simp [-bind_some]
 rw [c1x]
 simp only [b8t, bs, d4X, a0B, w1, a0R, decide_true, a0d, if_true]
 refine wL3 hN hlen ho cmp P.length (P.length + 1) (P.length + 1 + B.length) (fun t => ∃ y, (P ++ x :: B ++ Q)[t]? = some y ∧ c y x < 0) (by omega) (by omega) (by omega) x gx (fun t y _ _ hy => ⟨c y x, hcmp y x g, fun h => ⟨y, hy, h⟩, fun ⟨y', h1, h2⟩ => by rw [hy] at h1; injection h1 with h1; rw [h1]; exact h2⟩) _ _ _ fun k b1 b2 b3 k1 k2 k3 k4 => ?_
 obtain ⟨t, rfl⟩ : ∃ t, k = P.length + 1 + t := ⟨k - (P.length + 1), by omega⟩
 have htB : t ≤ B.length := by omega
 simp only [a0l, a0o, bs, a0f, a0n, d4X]
 have eL : P ++ x :: B ++ Q = P ++ x :: B.take t ++ (B.drop t ++ Q) := by
  simp only [List.append_assoc, List.cons_append]
  rw [← List.append_assoc (B.take t), List.take_append_drop]
 have htl : (B.take t).length = t := by simp; omega
 refine wL4 (P := P) (A := B.take t) (Q := B.drop t ++ Q) (x := x) hN (by rw [← eL]; exact hlen) (by rw [← eL]; exact ho) _ (by rw [htl]; show D.int _ _ = _; congr 1; omega) _ rfl _ fun g1 c1 c2 p1 s1' => ?_
 simp only [a0l, a0o, bs]
 refine K g1 (B.take t) (B.drop t) (List.take_append_drop _ _).symm ?_ ?_ (by rw [p1]; simp [-bind_some]) s1'
 ·rcases Nat.eq_zero_or_pos t with rfl | hpos
  ·exact .inl (by simp)
  ·right
   rcases k3 with k3 | ⟨y, hy, hlt⟩
   ·omega
   ·rw [show P.length + 1 + t - 1 = P.length + 1 + (t - 1) by omega, gB, d5y (by omega)] at hy
    refine ⟨y, B.take (t - 1), ?_, hlt⟩
    conv => lhs; rw [show t = (t - 1) + 1 by omega, d5k, hy]
    simp [-bind_some]
 ·rcases Nat.lt_or_ge t B.length with hlt | hge
  ·right
   obtain ⟨y, hy⟩ := gx_ hlt
   rcases k4 with k4 | k4
   ·omega
   ·refine ⟨y, B.drop (t + 1), ?_, fun h => k4 ⟨y, by rw [gB, d5y hlt]; exact hy, h⟩⟩
    obtain ⟨hn, hh⟩ := d5p.1 hy
    rw [List.drop_eq_getElem_cons hn, hh]
  ·exact .inl (List.drop_eq_nil_of_le hge)
theorem c6A {g : Hp} {o N : Nat} {P A Q : List (Str × Str)} {x : Str × Str} (hN : N ≤ 1000000000) (hlen : (P ++ A ++ x :: Q).length = N) (hA1 : A.length ≠ 1) (ho : g[o]? = some (.row a0w 2 ((P ++ A ++ x :: Q).map fld))) (cmp : D) (c : Str × Str → Str × Str → Int) (hcmp : b9N cmp c) (a m b : Int) (ha : a = (P.length : Nat)) (hm : m = (P.length + A.length : Nat)) (hb : b = (P.length + A.length + 1 : Nat)) {β : Type} {f : D × Hp → Option β} {R1 : β → Prop}
  (K : ∀ g' A1 A2, A = A1 ++ A2 → (A1 = [] ∨ ∃ y r, A1 = r ++ [y] ∧ ¬ c x y < 0) → (A2 = [] ∨ ∃ y r, A2 = y :: r ∧ c x y < 0) → g'[o]? = some (.row a0w 2 ((P ++ (A1 ++ x :: A2) ++ Q).map fld)) → Same o g g' → Wp (f (a0i [], g')) R1) : Wp ((R a6x [.msl 2 o 0 N, .int .i64 a, .int .i64 m, .int .i64 b, cmp] g).bind f) R1 := by
 subst ha hm hb
 have hl := hlen
 simp only [d5c, d5q] at hl
 have w1 : IntKind.wrap .i64 (((P.length + A.length : Nat) : Int) - (P.length : Int)) = A.length := by rw [wrap_i64 (by omega) (by omega)]; omega
 have w2 : IntKind.wrap .i64 (((P.length + A.length + 1 : Nat) : Int) - ((P.length + A.length : Nat) : Int)) = 1 := by rw [wrap_i64 (by omega) (by omega)]; omega
 have hd1 : decide ((A.length : Int) = 1) = false := decide_eq_false (by omega)
 have gx : (P ++ A ++ x :: Q)[P.length + A.length]? = some x := a1T _ _ x _ (by simp)
 have gA : ∀ t, t < A.length → (P ++ A ++ x :: Q)[P.length + t]? = A[t]? := fun t ht => by
  rw [List.append_assoc, List.getElem?_append_right (by simp), d5y (by omega)]
  simp [-bind_some]
 rw [c1x]
 simp only [b8t, a5u, bs, d4X, a0B, w1, w2, a0R, hd1, decide_true, a0d, d4Y, if_false, if_true]
 refine wL1 hN hlen ho cmp (P.length + A.length) P.length (P.length + A.length) (fun t => ∃ y, (P ++ A ++ x :: Q)[t]? = some y ∧ ¬ c x y < 0) (by omega) (by omega) (by omega) x gx (fun t y _ _ hy => ⟨c x y, hcmp x y g, fun h => ⟨y, hy, h⟩, fun ⟨y', h1, h2⟩ => by rw [hy] at h1; injection h1 with h1; rw [h1]; exact h2⟩) _ _ _ fun k b1 b2 b3 k1 k2 k3 k4 => ?_
 obtain ⟨t, rfl⟩ : ∃ t, k = P.length + t := ⟨k - P.length, by omega⟩
 have htA : t ≤ A.length := by omega
 simp only [a0l, a0o, bs, a0f, a0n, d4X]
 have htl : (A.take t).length = t := by simp; omega
 have eL : P ++ A ++ x :: Q = (P ++ A.take t) ++ A.drop t ++ x :: Q := by
  rw [List.append_assoc P (A.take t), List.take_append_drop]
 have hdl : (A.drop t).length = A.length - t := d5s
 refine wL2 (P := P ++ A.take t) (A := A.drop t) (Q := Q) (x := x) hN (by rw [← eL]; exact hlen) (by rw [← eL]; exact ho) _ (by rw [d5c, htl]; rfl) _ (by rw [d5c, htl, hdl]; congr 1; omega) _ fun g1 c1 c2 p1 s1' => ?_
 simp only [a0l, a0o, bs]
 refine K g1 (A.take t) (A.drop t) (List.take_append_drop _ _).symm ?_ ?_ (by rw [p1]; simp [-bind_some]) s1'
 ·rcases Nat.eq_zero_or_pos t with rfl | hpos
  ·exact .inl (by simp)
  ·right
   rcases k3 with k3 | ⟨y, hy, hlt⟩
   ·omega
   ·rw [show P.length + t - 1 = P.length + (t - 1) by omega, gA _ (by omega)] at hy
    refine ⟨y, A.take (t - 1), ?_, hlt⟩
    conv => lhs; rw [show t = (t - 1) + 1 by omega, d5k, hy]
    simp [-bind_some]
 ·rcases Nat.lt_or_ge t A.length with hlt | hge
  ·right
   obtain ⟨y, hy⟩ := gx_ hlt
   rcases k4 with k4 | k4
   ·omega
   ·refine ⟨y, A.drop (t + 1), ?_, Classical.byContradiction fun h => k4 ⟨y, by rw [gA _ hlt]; exact hy, h⟩⟩
    obtain ⟨hn, hh⟩ := d5p.1 hy
    rw [List.drop_eq_getElem_cons hn, hh]
  ·exact .inl (List.drop_eq_nil_of_le hge)
theorem d2t {α : Type} (P A B : List α) (t : Nat) (h0 : P.length ≤ t) (h1 : t < P.length + A.length) : (P ++ A ++ B)[t]? = A[t - P.length]? := by
 rw [List.append_assoc, List.getElem?_append_right h0, d5y (by omega)]
theorem b6A {α : Type} {A : List α} {t : Nat} {y : α} (ht : 0 < t) (hy : A[t - 1]? = some y) : ∃ r, A.take t = r ++ [y] := by
 refine ⟨A.take (t - 1), ?_⟩
 conv => lhs; rw [show t = (t - 1) + 1 by omega, d5k, hy]
 simp [-bind_some]
theorem b2T {α : Type} {A : List α} {t : Nat} {y : α} (hy : A[t]? = some y) : ∃ r, A.drop t = y :: r := by
 obtain ⟨hn, hh⟩ := d5p.1 hy
 exact ⟨A.drop (t + 1), by rw [List.drop_eq_getElem_cons hn, hh]⟩
theorem b1j (b1 : Bool) (a c : Int) (t : Nat) {β : Type} (f : D → Option β) : ((gd (.bool b1) true (some (.int .i64 a))).bind fun t2 => (gd (.bool b1) true (some (.int .i64 c))).bind fun t3 => (gd (.bool b1) true (a0k tab .lss t t2 t3)).bind fun t4 => (a0M (.bool b1) t4 (.bool false)).bind f) = f (.bool (b1 && decide (a < c))) := by
 cases b1
 ·simp only [a0r, reduceCtorEq, if_false, bs, a0e, d4Y, Bool.false_and]
 ·simp only [a0r, if_true, bs, a0e, a0j, Bool.true_and]
def b4M (c : Str × Str → Str × Str → Int) (S Pre : Str × Str → Str × Str → Prop) (cmp : D) (o N n : Nat) : Prop :=
 ∀ (g : Hp) (P A B Q : List (Str × Str)) (a m b : Int), A.length + B.length ≤ n → (P ++ A ++ B ++ Q).length = N → 0 < A.length → 0 < B.length → A.Pairwise S → B.Pairwise S → (∀ x ∈ A, ∀ y ∈ B, Pre x y) →
  g[o]? = some (.row a0w 2 ((P ++ A ++ B ++ Q).map fld)) → a = (P.length : Nat) → m = (P.length + A.length : Nat) → b = (P.length + A.length + B.length : Nat) →
  Wp (R a6x [.msl 2 o 0 N, .int .i64 a, .int .i64 m, .int .i64 b, cmp] g) fun p => ∃ C : List (Str × Str), C.Perm (A ++ B) ∧ C.Pairwise S ∧ p.2[o]? = some (.row a0w 2 ((P ++ C ++ Q).map fld)) ∧ Same o g p.2
theorem c4D {g : Hp} {o N : Nat} {P A B Q : List (Str × Str)} (hN : N ≤ 1000000000) (hlen : (P ++ A ++ B ++ Q).length = N) (hA : 0 < A.length) (hB : 0 < B.length) (ho : g[o]? = some (.row a0w 2 ((P ++ A ++ B ++ Q).map fld))) (cmp : D) (c : Str × Str → Str × Str → Int) (hcmp : b9N cmp c)
  (mid s0 r0 : Nat) (hmid : mid = (P.length + (P.length + A.length + B.length)) / 2) (hs : (P.length + A.length > mid ∧ s0 + B.length = mid ∧ r0 = mid) ∨ (P.length + A.length ≤ mid ∧ s0 = P.length ∧ r0 = P.length + A.length))
  (p : Int) (hp : p = (mid + (P.length + A.length) - 1 : Nat)) (x1 x2 x3 : D) {β : Type} {f : Out → Option β} {R1 : β → Prop}
  (K : ∀ (k : Nat) b1 b2 b3 A1 A2 B1 B2, A = A1 ++ A2 → B = B1 ++ B2 → k = P.length + A1.length → mid = P.length + A1.length + B1.length →
   (A1 = [] ∨ B2 = [] ∨ ∃ x y r s, A1 = r ++ [x] ∧ B2 = y :: s ∧ ¬ c y x < 0) → (A2 = [] ∨ B1 = [] ∨ ∃ x y r s, B1 = r ++ [y] ∧ A2 = x :: s ∧ c y x < 0) →
   Wp (f (.ext 8, [.int .i64 (k : Int), .int .i64 (k : Int), b1, b2, b3], g)) R1) : Wp ((a0I (a6H (.msl 2 o 0 N) cmp (.int .i64 p)) [.int .i64 (s0 : Int), .int .i64 (r0 : Int), x1, x2, x3] g).bind f) R1 := by
 subst hp
 have hl := hlen
 simp only [d5c] at hl
 have gA : ∀ t, P.length ≤ t → t < P.length + A.length → (P ++ A ++ B ++ Q)[t]? = A[t - P.length]? := fun t h0 h1 => by
  rw [List.append_assoc (P ++ A)]; exact d2t P A _ t h0 h1
 have gB : ∀ t, P.length + A.length ≤ t → t < P.length + A.length + B.length → (P ++ A ++ B ++ Q)[t]? = B[t - (P.length + A.length)]? := fun t h0 h1 => by
  have := d2t (P ++ A) B Q t (by simpa using h0) (by simpa using h1)
  simpa using this
 obtain ⟨q, hq⟩ : ∃ q : Nat → Prop, ∀ t, q t ↔ ∃ y z, (P ++ A ++ B ++ Q)[t]? = some y ∧ (P ++ A ++ B ++ Q)[mid + (P.length + A.length) - 1 - t]? = some z ∧ ¬ c z y < 0 := ⟨_, fun t => Iff.rfl⟩
 refine wL0 hN hlen ho cmp (mid + (P.length + A.length) - 1) s0 r0 q (by omega) (by omega) (by omega) (by omega)
  (fun t y z _ _ hy hz => ⟨c z y, hcmp z y g, fun h => (hq t).2 ⟨y, z, hy, hz, h⟩, fun hh => by
   obtain ⟨y', z', h1, h2, h3⟩ := (hq t).1 hh
   rw [hy] at h1; rw [hz] at h2; injection h1 with h1; injection h2 with h2; rw [h1, h2]; exact h3⟩) _ _ _ fun k b1 b2 b3 k1 k2 k3 k4 => ?_
 have hkA : k - P.length ≤ A.length := by omega
 have hkB : mid - k ≤ B.length := by omega
 have la : (A.take (k - P.length)).length = k - P.length := by simp; omega
 have lb : (B.take (mid - k)).length = mid - k := by simp; omega
 refine K k b1 b2 b3 (A.take (k - P.length)) (A.drop (k - P.length)) (B.take (mid - k)) (B.drop (mid - k)) (List.take_append_drop _ _).symm (List.take_append_drop _ _).symm (by omega) (by omega) ?_ ?_
 ·rcases k3 with k3 | k3
  ·rcases hs with ⟨h1, h2, h3⟩ | ⟨h1, h2, h3⟩
   ·right; left
    exact List.drop_eq_nil_of_le (by omega)
   ·left
    apply List.eq_nil_of_length_eq_zero
    omega
  ·by_cases hk0 : k = P.length
   ·left; apply List.eq_nil_of_length_eq_zero; omega
   ·right
    by_cases hk1 : B.length ≤ mid - k
    ·left; exact List.drop_eq_nil_of_le hk1
    ·right
     obtain ⟨y, z, hy, hz, hlt⟩ := (hq _).1 k3
     rw [gA _ (by omega) (by omega)] at hy
     rw [gB _ (by omega) (by omega)] at hz
     obtain ⟨r, hr⟩ := b6A (A := A) (t := k - P.length) (y := y) (by omega) (by rw [← hy]; congr 1; omega)
     obtain ⟨s, hs'⟩ := b2T (A := B) (t := mid - k) (y := z) (by rw [← hz]; congr 1; omega)
     exact ⟨y, z, r, s, hr, hs', hlt⟩
 ·by_cases hk0 : k = P.length + A.length
  ·left; exact List.drop_eq_nil_of_le (by omega)
  ·right
   by_cases hk1 : mid - k = 0
   ·left; rw [hk1]; rfl
   ·right
    rcases k4 with k4 | k4
    ·omega
    ·obtain ⟨y, hy⟩ : ∃ y, A[k - P.length]? = some y := ⟨_, d5o (by omega)⟩
     obtain ⟨z, hz⟩ : ∃ z, B[mid - k - 1]? = some z := ⟨_, d5o (by omega)⟩
     obtain ⟨r, hr⟩ := b6A (A := B) (t := mid - k) (y := z) (by omega) hz
     obtain ⟨s, hs'⟩ := b2T (A := A) (t := k - P.length) (y := y) hy
     refine ⟨y, z, r, s, hr, hs', Classical.byContradiction fun h => k4 ((hq _).2 ⟨y, z, ?_, ?_, h⟩)⟩
     ·rw [gA _ (by omega) (by omega)]; exact hy
     ·rw [gB _ (by omega) (by omega), ← hz]; congr 1; omega
end Go.Proofs.YthaajlepgblimaaGreatDoor
