/- Operations at the types of this seat. -/
import Derived.Test.YthaajlepgblimaaGreatDoorC2
import Derived.Test.YthaajlepgblimaaGreatDoorPiZ
set_option linter.unusedSimpArgs false
set_option linter.unusedVariables false
set_option linter.unnecessarySimpa false
set_option maxRecDepth 20000
set_option maxHeartbeats 2000000
namespace Go.Proofs.YthaajlepgblimaaGreatDoor
open Go.Eng Go.Pi
@[simp] theorem a7o (o k f : Nat) : a0a tab a0q 2 (.ptr o k f) = some (.ptr o k (f + 2)) := id rfl
@[simp] theorem a6j (c : D) (cs : List D) (h : Hp) : a0c tab h a0K (.fptr (c :: cs)) = some c := id rfl
@[simp] theorem b6B (h : Hp) (o k f : Nat) : a0c tab h a0K (.ptr o k f) = (h.row o k).bind fun row => (row.drop f).head? := by show (match h.row o k with | some row => _ | none => none) = _; cases h.row o k <;> rfl
@[simp] theorem a4y {α : Type} {f : α → List D} {l : List α} {d : D} (h : SlOf 11 f l d) : a0y tab a0K d = some (.int .i64 l.length) := 
 by
  rcases h with ⟨rfl, rfl⟩ | ⟨b, rfl⟩
  ·rfl
  ·show some (D.int .i64 ((l.map f).length : Nat)) = _; simp
theorem c1Y {h : Hp} {n0 e z : Nat} {rows : List (List D)} {d : D} (hd : Own h n0 e z rows d) : a0y tab a0K d = some (.int .i64 rows.length) := by
 rcases hd with ⟨rfl, rfl⟩ | ⟨o, _, rfl, _⟩ <;> rfl
@[simp] theorem a1l {α : Type} {f : α → List D} {l : List α} {d : D} (h : SlOf 1 f l d) : a0y tab a0H d = some (.int .i64 l.length) := 
 by
  rcases h with ⟨rfl, rfl⟩ | ⟨b, rfl⟩
  ·rfl
  ·show some (D.int .i64 ((l.map f).length : Nat)) = _; simp
theorem c0q {h : Hp} {n0 e z : Nat} {rows : List (List D)} {d : D} (hd : Own h n0 e z rows d) : a0y tab a0H d = some (.int .i64 rows.length) := by
 rcases hd with ⟨rfl, rfl⟩ | ⟨o, _, rfl, _⟩ <;> rfl
@[simp] theorem d4w (z : Nat) (f : Bool) (rows : List (List D)) : a0y tab a0H (.sl z f rows) = some (.int .i64 rows.length) := id rfl
@[simp] theorem b6E (z o r n : Nat) : a0y tab a0H (.msl z o r n) = some (.int .i64 n) := id rfl
@[simp] theorem d2x : a0y tab a0H .nils = some (.int .i64 0) := id rfl
@[simp] theorem d0K (f : Bool) (rows : List (List D)) (i : Int) : a0b tab a0K (.sl 11 f rows) (.int .i64 i) = if 0 ≤ i then (rows[i.toNat]?).map .fptr else none := by show (if 11 = 11 ∧ 0 ≤ i then (match rows[i.toNat]? with | some row => some (D.fptr row) | none => none) else none) = _; by_cases h : 0 ≤ i <;> simp [h] <;> cases rows[i.toNat]? <;> rfl
@[simp] theorem c5f (o r n : Nat) (i : Int) : a0b tab a0K (.msl 11 o r n) (.int .i64 i) = if 0 ≤ i ∧ i < n then some (.ptr o (r + i.toNat) 0) else none := by show (if 11 = 11 ∧ 0 ≤ i ∧ i < n then some (D.ptr o (r + i.toNat) 0) else none) = _; simp
@[simp] theorem a7z {α : Type} {f : α → List D} {l : List α} {d : D} (h : SlOf 11 f l d) (i : Int) : a0b tab a0K d (.int .i64 i) = if 0 ≤ i then (l[i.toNat]?).map fun p => .fptr (f p) else none := 
 by
  rcases h with ⟨rfl, rfl⟩ | ⟨b, rfl⟩
  ·show none = _; simp
  ·rw [d0K]; simp [Function.comp_def]
@[simp] theorem d2r (c0 c1 : D) (cs : List D) : a0a tab a0D 1 (.fptr (c0 :: c1 :: cs)) = some (.fptr (c1 :: cs)) := id rfl
@[simp] theorem a7p (o k f : Nat) : a0a tab a0D 1 (.ptr o k f) = some (.ptr o k (f + 1)) := id rfl
@[simp] theorem a5I (c0 c1 c2 c3 c4 : D) (cs : List D) : a0a tab a0E 4 (.fptr (c0 :: c1 :: c2 :: c3 :: c4 :: cs)) = some (.fptr (c4 :: cs)) := id rfl
@[simp] theorem a3t (o k f : Nat) : a0a tab a0E 4 (.ptr o k f) = some (.ptr o k (f + 4)) := id rfl
@[simp] theorem a8p (c : D) (cs : List D) (h : Hp) : a0c tab h a1u (.fptr (c :: cs)) = some c := id rfl
@[simp] theorem b6C (h : Hp) (o k f : Nat) : a0c tab h a1u (.ptr o k f) = (h.row o k).bind fun row => (row.drop f).head? := by show (match h.row o k with | some row => _ | none => none) = _; cases h.row o k <;> rfl
@[simp] theorem a2G {α : Type} {f : α → List D} {l : List α} {d : D} (h : SlOf 3 f l d) : a0y tab a1u d = some (.int .i64 l.length) := 
 by
  rcases h with ⟨rfl, rfl⟩ | ⟨b, rfl⟩
  ·rfl
  ·show some (D.int .i64 ((l.map f).length : Nat)) = _; simp
theorem c0r {h : Hp} {n0 e z : Nat} {rows : List (List D)} {d : D} (hd : Own h n0 e z rows d) : a0y tab a1u d = some (.int .i64 rows.length) := by
 rcases hd with ⟨rfl, rfl⟩ | ⟨o, _, rfl, _⟩ <;> rfl
@[simp] theorem c5t (z o r n : Nat) : a0y tab a1u (.msl z o r n) = some (.int .i64 n) := id rfl
@[simp] theorem c5u : a0y tab a1u .nils = some (.int .i64 0) := id rfl
@[simp] theorem a5f (o k f : Nat) : a0a tab a0E 9 (.ptr o k f) = some (.ptr o k (f + 9)) := id rfl
@[simp] theorem b4u (c : D) (cs : List D) (h : Hp) : a0c tab h a1c (.fptr (c :: cs)) = some c := id rfl
@[simp] theorem c5q (h : Hp) (o k f : Nat) : a0c tab h a1c (.ptr o k f) = (h.row o k).bind fun row => (row.drop f).head? := by show (match h.row o k with | some row => _ | none => none) = _; cases h.row o k <;> rfl
@[simp] theorem a1W {α : Type} {f : α → List D} {l : List α} {d : D} (h : SlOf 2 f l d) : a0y tab a1c d = some (.int .i64 l.length) := 
 by
  rcases h with ⟨rfl, rfl⟩ | ⟨b, rfl⟩
  ·rfl
  ·show some (D.int .i64 ((l.map f).length : Nat)) = _; simp
theorem c0s {h : Hp} {n0 e z : Nat} {rows : List (List D)} {d : D} (hd : Own h n0 e z rows d) : a0y tab a1c d = some (.int .i64 rows.length) := by
 rcases hd with ⟨rfl, rfl⟩ | ⟨o, _, rfl, _⟩ <;> rfl
@[simp] theorem c0p (z o r n : Nat) : a0y tab a1c (.msl z o r n) = some (.int .i64 n) := id rfl
@[simp] theorem c5v : a0y tab a1c .nils = some (.int .i64 0) := id rfl
@[simp] theorem a6k (h : Hp) (o k f : Nat) : a0c tab h a0q (.ptr o k f) = (h.row o k).bind fun row => b1c 3 (row.drop f) := by show (match h.row o k with | some row => _ | none => none) = _; cases h.row o k <;> rfl
@[simp] theorem b8F (x0_0 x0_1 x0_2 : D) : a1h tab a1G 1 [0] [.agg [x0_0, x0_1, x0_2]] = some (.sl 3 true [[x0_0, x0_1, x0_2]]) := id rfl
theorem b8i {h : Hp} {n0 : Nat} (hn0 : n0 ≤ h.length) {rows : List (List D)} {x y : D} (hx : Own h n0 a0q 3 rows x) {ys : List (List D)} (hy : a1C h 3 y = some ys) (hl : (rows.length + ys.length) * 40 ≤ 140737488355328) {β : Type} {f : D × Hp → Option β} {Q : β → Prop}
  (k : ∀ x' h', Own h' n0 a0q 3 (rows ++ ys) x' → h.length ≤ h'.length → (∀ q, q < n0 → h'[q]? = h[q]?) → (∀ q, q < h.length → ¬ x.inOb q → h'[q]? = h[q]?) → (∀ q, x'.inOb q → x.inOb q ∨ h.length ≤ q) → Wp (f (x', h')) Q) : Wp ((a0C tab h a1G a1G x y).bind f) Q := 
 a7V (T := tab) (i := b7Z) (j := b8a) (id rfl) (id rfl) (id rfl) (by decide) hn0 hx hy (a4j hl (by omega)) k
@[simp] theorem b9r {α : Type} {f : α → List D} {l : List α} {d : D} (h : SlOf 3 f l d) : a0y tab a1G d = some (.int .i64 l.length) := 
 by
  rcases h with ⟨rfl, rfl⟩ | ⟨b, rfl⟩
  ·rfl
  ·show some (D.int .i64 ((l.map f).length : Nat)) = _; simp
theorem b3w {h : Hp} {n0 e z : Nat} {rows : List (List D)} {d : D} (hd : Own h n0 e z rows d) : a0y tab a1G d = some (.int .i64 rows.length) := by
 rcases hd with ⟨rfl, rfl⟩ | ⟨o, _, rfl, _⟩ <;> rfl
@[simp] theorem c5d (f : Bool) (rows : List (List D)) (i : Int) : a0b tab a1G (.sl 3 f rows) (.int .i64 i) = if 0 ≤ i then (rows[i.toNat]?).map .fptr else none := by show (if 3 = 3 ∧ 0 ≤ i then (match rows[i.toNat]? with | some row => some (D.fptr row) | none => none) else none) = _; by_cases h : 0 ≤ i <;> simp [h] <;> cases rows[i.toNat]? <;> rfl
@[simp] theorem b6w (o r n : Nat) (i : Int) : a0b tab a1G (.msl 3 o r n) (.int .i64 i) = if 0 ≤ i ∧ i < n then some (.ptr o (r + i.toNat) 0) else none := by show (if 3 = 3 ∧ 0 ≤ i ∧ i < n then some (D.ptr o (r + i.toNat) 0) else none) = _; simp
@[simp] theorem c1P {α : Type} {f : α → List D} {l : List α} {d : D} (h : SlOf 3 f l d) (i : Int) : a0b tab a1G d (.int .i64 i) = if 0 ≤ i then (l[i.toNat]?).map fun p => .fptr (f p) else none := 
 by
  rcases h with ⟨rfl, rfl⟩ | ⟨b, rfl⟩
  ·show none = _; simp
  ·rw [c5d]; simp [Function.comp_def]
theorem b1d {h : Hp} {n0 : Nat} (hn0 : n0 ≤ h.length) {rows : List (List D)} {x y : D} (hx : Own h n0 ty5 1 rows x) {ys : List (List D)} (hy : a1C h 1 y = some ys) (hl : (rows.length + ys.length) * 1 ≤ 140737488355328) {β : Type} {f : D × Hp → Option β} {Q : β → Prop}
  (k : ∀ x' h', Own h' n0 ty5 1 (rows ++ ys) x' → h.length ≤ h'.length → (∀ q, q < n0 → h'[q]? = h[q]?) → (∀ q, q < h.length → ¬ x.inOb q → h'[q]? = h[q]?) → (∀ q, x'.inOb q → x.inOb q ∨ h.length ≤ q) → Wp (f (x', h')) Q) : Wp ((a0C tab h a0H a0H x y).bind f) Q := 
 a7V (T := tab) (i := ti22) (j := ti5) (id rfl) (id rfl) (id rfl) (by decide) hn0 hx hy (a4j hl (by omega)) k
@[simp] theorem d4t (f : Bool) (rows : List (List D)) (i : Int) : a0b tab a0H (.sl 1 f rows) (.int .i64 i) = if 0 ≤ i then (rows[i.toNat]?).map .fptr else none := by show (if 1 = 1 ∧ 0 ≤ i then (match rows[i.toNat]? with | some row => some (D.fptr row) | none => none) else none) = _; by_cases h : 0 ≤ i <;> simp [h] <;> cases rows[i.toNat]? <;> rfl
@[simp] theorem b6x (o r n : Nat) (i : Int) : a0b tab a0H (.msl 1 o r n) (.int .i64 i) = if 0 ≤ i ∧ i < n then some (.ptr o (r + i.toNat) 0) else none := by show (if 1 = 1 ∧ 0 ≤ i ∧ i < n then some (D.ptr o (r + i.toNat) 0) else none) = _; simp
@[simp] theorem a3X {α : Type} {f : α → List D} {l : List α} {d : D} (h : SlOf 1 f l d) (i : Int) : a0b tab a0H d (.int .i64 i) = if 0 ≤ i then (l[i.toNat]?).map fun p => .fptr (f p) else none := 
 by
  rcases h with ⟨rfl, rfl⟩ | ⟨b, rfl⟩
  ·show none = _; simp
  ·rw [d4t]; simp [Function.comp_def]
@[simp] theorem ld5 (c : D) (cs : List D) (h : Hp) : a0c tab h ty5 (.fptr (c :: cs)) = some c := id rfl
@[simp] theorem c6W (h : Hp) (o k f : Nat) : a0c tab h ty5 (.ptr o k f) = (h.row o k).bind fun row => (row.drop f).head? := by show (match h.row o k with | some row => _ | none => none) = _; cases h.row o k <;> rfl
theorem d4Q {h : Hp} {o T sz kk off : Nat} {rows : List (List D)} {row : List D} {v : D} (ho : h[o]? = some (.row T sz rows)) (hr : rows[kk]? = some row) (hv : (a0z v).length = 1) (hl : off + 1 ≤ row.length) (hk : v.okv = true) {β : Type} {f : Hp → Option β} {Q : β → Prop}
  (k : ∀ h', h'[o]? = some (.row T sz (rows.set kk (spl row off (a0z v)))) → Same o h h' → Wp (f h') Q) : Wp ((a0h tab h ty5 (.ptr o kk off) v).bind f) Q := 
 by rw [show a0h tab h ty5 (.ptr o kk off) v = pSt 1 h (.ptr o kk off) v from rfl]; exact a3m ho hr hv hl hk k
@[simp] theorem b4Z (h : Hp) (d0 : D) (d1 : D) (d2 : D) (h0 : d0.one = true) (h1 : d1.one = true) (h2 : d2.one = true) : c7d tab h a2i 3 [0, 1, 2] [d0, d1, d2] = some (.msl 1 h.length 0 3, a0F h a0H 1 [[d0], [d1], [d2]]) := b6K (T := tab) (t := a2i) (n := 3) (i := a8w) (j := ti22) (id rfl) (id rfl) (id rfl) (id rfl) h [d0, d1, d2] rfl (by decide) (by simp [h0, h1, h2])
@[simp] theorem b9q {α : Type} {f : α → List D} {l : List α} {d : D} (h : SlOf 1 f l d) : a0y tab a2i d = some (.int .i64 l.length) := 
 by
  rcases h with ⟨rfl, rfl⟩ | ⟨b, rfl⟩
  ·rfl
  ·show some (D.int .i64 ((l.map f).length : Nat)) = _; simp
@[simp] theorem b9p (z o r n : Nat) : a0y tab a2i (.msl z o r n) = some (.int .i64 n) := id rfl
@[simp] theorem c5c (f : Bool) (rows : List (List D)) (i : Int) : a0b tab a2i (.sl 1 f rows) (.int .i64 i) = if 0 ≤ i then (rows[i.toNat]?).map .fptr else none := by show (if 1 = 1 ∧ 0 ≤ i then (match rows[i.toNat]? with | some row => some (D.fptr row) | none => none) else none) = _; by_cases h : 0 ≤ i <;> simp [h] <;> cases rows[i.toNat]? <;> rfl
@[simp] theorem c1O (o r n : Nat) (i : Int) : a0b tab a2i (.msl 1 o r n) (.int .i64 i) = if 0 ≤ i ∧ i < n then some (.ptr o (r + i.toNat) 0) else none := by show (if 1 = 1 ∧ 0 ≤ i ∧ i < n then some (D.ptr o (r + i.toNat) 0) else none) = _; simp
@[simp] theorem b6y {α : Type} {f : α → List D} {l : List α} {d : D} (h : SlOf 1 f l d) (i : Int) : a0b tab a2i d (.int .i64 i) = if 0 ≤ i then (l[i.toNat]?).map fun p => .fptr (f p) else none := 
 by
  rcases h with ⟨rfl, rfl⟩ | ⟨b, rfl⟩
  ·show none = _; simp
  ·rw [c5c]; simp [Function.comp_def]
@[simp] theorem d2v (c : D) (cs : List D) (h : Hp) : a0c tab h a0H (.fptr (c :: cs)) = some c := id rfl
@[simp] theorem b9o (h : Hp) (o k f : Nat) : a0c tab h a0H (.ptr o k f) = (h.row o k).bind fun row => (row.drop f).head? := by show (match h.row o k with | some row => _ | none => none) = _; cases h.row o k <;> rfl
theorem a6s {h : Hp} {o T sz kk off : Nat} {rows : List (List D)} {row : List D} {v : D} (ho : h[o]? = some (.row T sz rows)) (hr : rows[kk]? = some row) (hv : (a0z v).length = 3) (hl : off + 3 ≤ row.length) (hk : v.okv = true) {β : Type} {f : Hp → Option β} {Q : β → Prop}
  (k : ∀ h', h'[o]? = some (.row T sz (rows.set kk (spl row off (a0z v)))) → Same o h h' → Wp (f h') Q) : Wp ((a0h tab h a0q (.ptr o kk off) v).bind f) Q := 
 by rw [show a0h tab h a0q (.ptr o kk off) v = pSt 3 h (.ptr o kk off) v from rfl]; exact a3m ho hr hv hl hk k
@[simp] theorem ld3 (c : D) (cs : List D) (h : Hp) : a0c tab h ty3 (.fptr (c :: cs)) = some c := id rfl
@[simp] theorem b0L (h : Hp) (o k f : Nat) : a0c tab h ty3 (.ptr o k f) = (h.row o k).bind fun row => (row.drop f).head? := by show (match h.row o k with | some row => _ | none => none) = _; cases h.row o k <;> rfl
@[simp] theorem c0d (k : IntKind) (n : Int) : a0Z tab ty3 a3p (.int k n) = some (.int .u32 (IntKind.wrap .u32 n)) := id rfl
@[simp] theorem b0M (h : Hp) (o k f : Nat) : a0c tab h a0D (.ptr o k f) = (h.row o k).bind fun row => b1c 11 (row.drop f) := by show (match h.row o k with | some row => _ | none => none) = _; cases h.row o k <;> rfl
theorem b1e {h : Hp} {o T sz kk off : Nat} {rows : List (List D)} {row : List D} {v : D} (ho : h[o]? = some (.row T sz rows)) (hr : rows[kk]? = some row) (hv : (a0z v).length = 11) (hl : off + 11 ≤ row.length) (hk : v.okv = true) {β : Type} {f : Hp → Option β} {Q : β → Prop}
  (k : ∀ h', h'[o]? = some (.row T sz (rows.set kk (spl row off (a0z v)))) → Same o h h' → Wp (f h') Q) : Wp ((a0h tab h a0D (.ptr o kk off) v).bind f) Q := 
 by rw [show a0h tab h a0D (.ptr o kk off) v = pSt 11 h (.ptr o kk off) v from rfl]; exact a3m ho hr hv hl hk k
@[simp] theorem a2f (k : IntKind) (n : Int) : a0Z tab ty3 a0J (.int k n) = some (.int .u64 (IntKind.wrap .u64 n)) := id rfl
@[simp] theorem a3P  : a0X tab a0q [] [] = some (.agg [.int .i64 0, .int .i64 0, .nils]) := id rfl
theorem b1V {α : Type} {f : α → List D} {l : List α} {d : D} (hd : SlOf 1 f l d) {k : IntKind} {n : Int} (h0 : 0 ≤ n) (h1 : n ≤ l.length) :
  ∃ d', a0G tab a0H true false false [d, .int k n] = some d' ∧ SlOf 1 f (l.drop n.toNat) d' := c2n (T := tab) (i := ti22) (j := ti5) (id rfl) (id rfl) (id rfl) (id rfl) hd h0 h1
@[simp] theorem a6f (n0 : Int) (n1 : Int) : a0X tab a0q [0, 1] [.int .i64 n0, .int .i64 n1] = some (.agg [.int .i64 n0, .int .i64 n1, .nils]) := id rfl
theorem b3U {h : Hp} {n0 : Nat} (hn0 : n0 ≤ h.length) {rows : List (List D)} {x y : D} (hx : Own h n0 a0D 11 rows x) {ys : List (List D)} (hy : a1C h 11 y = some ys) (hl : (rows.length + ys.length) * 144 ≤ 140737488355328) {β : Type} {f : D × Hp → Option β} {Q : β → Prop}
  (k : ∀ x' h', Own h' n0 a0D 11 (rows ++ ys) x' → h.length ≤ h'.length → (∀ q, q < n0 → h'[q]? = h[q]?) → (∀ q, q < h.length → ¬ x.inOb q → h'[q]? = h[q]?) → (∀ q, x'.inOb q → x.inOb q ∨ h.length ≤ q) → Wp (f (x', h')) Q) : Wp ((a0C tab h a0K a0K x y).bind f) Q := 
 a7V (T := tab) (i := b8b) (j := d1L) (id rfl) (id rfl) (id rfl) (by decide) hn0 hx hy (a4j hl (by omega)) k
theorem b8n {h : Hp} {o T sz kk off : Nat} {rows : List (List D)} {row : List D} {v : D} (ho : h[o]? = some (.row T sz rows)) (hr : rows[kk]? = some row) (hv : (a0z v).length = 1) (hl : off + 1 ≤ row.length) (hk : v.okv = true) {β : Type} {f : Hp → Option β} {Q : β → Prop}
  (k : ∀ h', h'[o]? = some (.row T sz (rows.set kk (spl row off (a0z v)))) → Same o h h' → Wp (f h') Q) : Wp ((a0h tab h a0K (.ptr o kk off) v).bind f) Q := 
 by rw [show a0h tab h a0K (.ptr o kk off) v = pSt 1 h (.ptr o kk off) v from rfl]; exact a3m ho hr hv hl hk k
theorem b4B {α : Type} {f : α → List D} {l : List α} {d : D} (hd : SlOf 1 f l d) {k : IntKind} {n : Int} (h0 : 0 ≤ n) (h1 : n ≤ l.length) :
  ∃ d', a0G tab a0H false true false [d, .int k n] = some d' ∧ SlOf 1 f (l.take n.toNat) d' := c2m (T := tab) (i := ti22) (j := ti5) (id rfl) (id rfl) (id rfl) (id rfl) hd h0 h1
@[simp] theorem a2T (k : IntKind) (n : Int) : a0Z tab a0J ty3 (.int k n) = some (.int .i64 (IntKind.wrap .i64 n)) := id rfl
@[simp] theorem b0e (k : IntKind) (n : Int) : a0Z tab a3p a0J (.int k n) = some (.int .u64 (IntKind.wrap .u64 n)) := id rfl
@[simp] theorem c1m (d0 : D) (h0 : d0.one = true) : a0X tab a4V [0] [d0] = some (.agg [d0, .int .i64 0]) := by
 have c0 := a0T h0
 refine b4S (T := tab) (i := ti101) (fs := [(25, 0, 1), (3, 1, 1)]) (id rfl) (id rfl) ?_
 rw [show ti101.zero = [.nils, .int .i64 0] from id rfl]
 rw [a2O (off := 0) (sz := 1) (id rfl) (by rw [c0.1]; rfl) (by simp [spl, a2A, a2B, a2k, a2z]) c0.2, c0.1]
 exact id rfl
@[simp] theorem b8E (d0 : D) (d1 : D) (d2 : D) (d3 : D) (h0 : d0.one = true) (h1 : d1.one = true) (h2 : d2.one = true) (h3 : d3.one = true) : a1h tab a2i 4 [0, 1, 2, 3] [d0, d1, d2, d3] = some (.sl 1 true [[d0], [d1], [d2], [d3]]) := a5U (T := tab) (t := a2i) (n := 4) (i := a8w) (j := ti22) (id rfl) (id rfl) (id rfl) (id rfl) [d0, d1, d2, d3] rfl (by decide) (by simp [h0, h1, h2, h3])
@[simp] theorem b6F {α : Type} {f : α → List D} {l : List α} {d : D} (h : SlOf 1 f l d) : a0y tab a4p d = some (.int .i64 l.length) := 
 by
  rcases h with ⟨rfl, rfl⟩ | ⟨b, rfl⟩
  ·rfl
  ·show some (D.int .i64 ((l.map f).length : Nat)) = _; simp
@[simp] theorem d4U (f : Bool) (rows : List (List D)) (i : Int) : a0b tab b1i (.sl 1 f rows) (.int .i64 i) = if 0 ≤ i then (rows[i.toNat]?).map .fptr else none := by show (if 1 = 1 ∧ 0 ≤ i then (match rows[i.toNat]? with | some row => some (D.fptr row) | none => none) else none) = _; by_cases h : 0 ≤ i <;> simp [h] <;> cases rows[i.toNat]? <;> rfl
@[simp] theorem d0L (o r n : Nat) (i : Int) : a0b tab b1i (.msl 1 o r n) (.int .i64 i) = if 0 ≤ i ∧ i < n then some (.ptr o (r + i.toNat) 0) else none := by show (if 1 = 1 ∧ 0 ≤ i ∧ i < n then some (D.ptr o (r + i.toNat) 0) else none) = _; simp
@[simp] theorem d0J (f : Bool) (rows : List (List D)) (i : Int) : a0b tab a4p (.sl 1 f rows) (.int .i64 i) = if 0 ≤ i then (rows[i.toNat]?).map .fptr else none := by show (if 1 = 1 ∧ 0 ≤ i then (match rows[i.toNat]? with | some row => some (D.fptr row) | none => none) else none) = _; by_cases h : 0 ≤ i <;> simp [h] <;> cases rows[i.toNat]? <;> rfl
@[simp] theorem c5g {α : Type} {f : α → List D} {l : List α} {d : D} (h : SlOf 1 f l d) (i : Int) : a0b tab a4p d (.int .i64 i) = if 0 ≤ i then (l[i.toNat]?).map fun p => .fptr (f p) else none := 
 by
  rcases h with ⟨rfl, rfl⟩ | ⟨b, rfl⟩
  ·show none = _; simp
  ·rw [d0J]; simp [Function.comp_def]
theorem b8s {h : Hp} {o T sz kk off : Nat} {rows : List (List D)} {row : List D} {v : D} (ho : h[o]? = some (.row T sz rows)) (hr : rows[kk]? = some row) (hv : (a0z v).length = 1) (hl : off + 1 ≤ row.length) (hk : v.okv = true) {β : Type} {f : Hp → Option β} {Q : β → Prop}
  (k : ∀ h', h'[o]? = some (.row T sz (rows.set kk (spl row off (a0z v)))) → Same o h h' → Wp (f h') Q) : Wp ((a0h tab h ty3 (.ptr o kk off) v).bind f) Q := 
 by rw [show a0h tab h ty3 (.ptr o kk off) v = pSt 1 h (.ptr o kk off) v from rfl]; exact a3m ho hr hv hl hk k
@[simp] theorem a4W (c0 : D) (cs : List D) : a0a tab a0E 0 (.fptr (c0 :: cs)) = some (.fptr (c0 :: cs)) := id rfl
@[simp] theorem b1u (o k f : Nat) : a0a tab a0E 0 (.ptr o k f) = some (.ptr o k (f + 0)) := id rfl
@[simp] theorem b1w (o k f : Nat) : a0a tab a0D 0 (.ptr o k f) = some (.ptr o k (f + 0)) := id rfl
@[simp] theorem ld9 (c : D) (cs : List D) (h : Hp) : a0c tab h ty9 (.fptr (c :: cs)) = some c := id rfl
@[simp] theorem b1G (h : Hp) (o k f : Nat) : a0c tab h ty9 (.ptr o k f) = (h.row o k).bind fun row => (row.drop f).head? := by show (match h.row o k with | some row => _ | none => none) = _; cases h.row o k <;> rfl
@[simp] theorem b5i (k : IntKind) (n : Int) : a0Z tab a0J a3p (.int k n) = some (.int .u32 (IntKind.wrap .u32 n)) := id rfl
@[simp] theorem b8D (d0 : D) (d1 : D) (d2 : D) (h0 : d0.one = true) (h1 : d1.one = true) (h2 : d2.one = true) : a1h tab a2i 3 [0, 1, 2] [d0, d1, d2] = some (.sl 1 true [[d0], [d1], [d2]]) := a5U (T := tab) (t := a2i) (n := 3) (i := a8w) (j := ti22) (id rfl) (id rfl) (id rfl) (id rfl) [d0, d1, d2] rfl (by decide) (by simp [h0, h1, h2])
@[simp] theorem c4E (k : IntKind) (n : Int) : a0Z tab a3p ty5 (.int k n) = some (.int .u8 (IntKind.wrap .u8 n)) := id rfl
@[simp] theorem c4w (n0 : Int) (n1 : Int) (n2 : Int) (n3 : Int) : a1h tab a0H 4 [0, 1, 2, 3] [.int .u8 n0, .int .u8 n1, .int .u8 n2, .int .u8 n3] = some (.sl 1 true [[.int .u8 n0], [.int .u8 n1], [.int .u8 n2], [.int .u8 n3]]) := id rfl
@[simp] theorem b8y (d0 : D) (h0 : d0.one = true) : a0X tab a2j [0] [d0] = some (.agg [d0]) := by
 have c0 := a0T h0
 refine b4S (T := tab) (i := ti1101) (fs := [(25, 0, 1)]) (id rfl) (id rfl) ?_
 rw [show ti1101.zero = [.nils] from id rfl]
 rw [a2O (off := 0) (sz := 1) (id rfl) (by rw [c0.1]; rfl) (by simp [spl, a2A, a2B, a2k, a2z]) c0.2, c0.1]
 exact id rfl
@[simp] theorem a5K (o k f : Nat) : a0a tab a2j 0 (.ptr o k f) = some (.ptr o k (f + 0)) := id rfl
@[simp] theorem a6P (k : IntKind) (n : Int) : a0Z tab a0J ty5 (.int k n) = some (.int .u8 (IntKind.wrap .u8 n)) := id rfl
@[simp] theorem b2G (n0 : Int) : a1h tab a0H 1 [0] [.int .u8 n0] = some (.sl 1 true [[.int .u8 n0]]) := id rfl
@[simp] theorem b5j (k : IntKind) (n : Int) : a0Z tab ty5 a3p (.int k n) = some (.int .u32 (IntKind.wrap .u32 n)) := id rfl
@[simp] theorem b8z (d0 : D) (h0 : d0.one = true) : a0X tab a1M [0] [d0] = some (.agg [d0, .bool false]) := by
 have c0 := a0T h0
 refine b4S (T := tab) (i := ti1106) (fs := [(25, 0, 1), (4, 1, 1)]) (id rfl) (id rfl) ?_
 rw [show ti1106.zero = [.nils, .bool false] from id rfl]
 rw [a2O (off := 0) (sz := 1) (id rfl) (by rw [c0.1]; rfl) (by simp [spl, a2A, a2B, a2k, a2z]) c0.2, c0.1]
 exact id rfl
@[simp] theorem a5L (o k f : Nat) : a0a tab a1M 1 (.ptr o k f) = some (.ptr o k (f + 1)) := id rfl
@[simp] theorem d2w (h : Hp) (o k f : Nat) : a0c tab h ty4 (.ptr o k f) = (h.row o k).bind fun row => (row.drop f).head? := by show (match h.row o k with | some row => _ | none => none) = _; cases h.row o k <;> rfl
@[simp] theorem a2r (o k f : Nat) : a0a tab a1M 0 (.ptr o k f) = some (.ptr o k (f + 0)) := id rfl
@[simp] theorem a5B (k : IntKind) (n : Int) : a0Z tab ty5 a0J (.int k n) = some (.int .u64 (IntKind.wrap .u64 n)) := id rfl
@[simp] theorem b4a (d0 : D) (b1 : Bool) (h0 : d0.one = true) : a0X tab a0m [0, 2] [d0, .bool b1] = some (.agg [d0, .int .i64 0, .bool b1]) := by
 have c0 := a0T h0
 refine b4S (T := tab) (i := ti1108) (fs := [(25, 0, 1), (3, 1, 1), (4, 2, 1)]) (id rfl) (id rfl) ?_
 rw [show ti1108.zero = [.nils, .int .i64 0, .bool false] from id rfl]
 rw [a2O (off := 0) (sz := 1) (id rfl) (by rw [c0.1]; rfl) (by simp [spl, a2A, a2B, a2k, a2z]) c0.2, c0.1]
 rw [a2O (off := 2) (sz := 1) (id rfl) (id rfl) (by simp [spl, a2A, a2B, a2k, a2z]) (id rfl)]
 exact id rfl
theorem c2G {h : Hp} {o T sz kk off : Nat} {rows : List (List D)} {row : List D} {v : D} (ho : h[o]? = some (.row T sz rows)) (hr : rows[kk]? = some row) (hv : (a0z v).length = 3) (hl : off + 3 ≤ row.length) (hk : v.okv = true) {β : Type} {f : Hp → Option β} {Q : β → Prop}
  (k : ∀ h', h'[o]? = some (.row T sz (rows.set kk (spl row off (a0z v)))) → Same o h h' → Wp (f h') Q) : Wp ((a0h tab h a0m (.ptr o kk off) v).bind f) Q := 
 by rw [show a0h tab h a0m (.ptr o kk off) v = pSt 3 h (.ptr o kk off) v from rfl]; exact a3m ho hr hv hl hk k
@[simp] theorem a3z (o k f : Nat) : a0a tab a0m 2 (.ptr o k f) = some (.ptr o k (f + 2)) := id rfl
@[simp] theorem a9U (d0 : D) (n1 : Int) (b2 : Bool) (h0 : d0.one = true) : a0X tab a0m [0, 1, 2] [d0, .int .i64 n1, .bool b2] = some (.agg [d0, .int .i64 n1, .bool b2]) := by
 have c0 := a0T h0
 refine b4S (T := tab) (i := ti1108) (fs := [(25, 0, 1), (3, 1, 1), (4, 2, 1)]) (id rfl) (id rfl) ?_
 rw [show ti1108.zero = [.nils, .int .i64 0, .bool false] from id rfl]
 rw [a2O (off := 0) (sz := 1) (id rfl) (by rw [c0.1]; rfl) (by simp [spl, a2A, a2B, a2k, a2z]) c0.2, c0.1]
 rw [a2O (off := 1) (sz := 1) (id rfl) (id rfl) (by simp [spl, a2A, a2B, a2k, a2z]) (id rfl)]
 rw [a2O (off := 2) (sz := 1) (id rfl) (id rfl) (by simp [spl, a2A, a2B, a2k, a2z]) (id rfl)]
 exact id rfl
@[simp] theorem a5M (o k f : Nat) : a0a tab a0m 0 (.ptr o k f) = some (.ptr o k (f + 0)) := id rfl
theorem c2H {h : Hp} {o T sz kk off : Nat} {rows : List (List D)} {row : List D} {v : D} (ho : h[o]? = some (.row T sz rows)) (hr : rows[kk]? = some row) (hv : (a0z v).length = 1) (hl : off + 1 ≤ row.length) (hk : v.okv = true) {β : Type} {f : Hp → Option β} {Q : β → Prop}
  (k : ∀ h', h'[o]? = some (.row T sz (rows.set kk (spl row off (a0z v)))) → Same o h h' → Wp (f h') Q) : Wp ((a0h tab h a0H (.ptr o kk off) v).bind f) Q := 
 by rw [show a0h tab h a0H (.ptr o kk off) v = pSt 1 h (.ptr o kk off) v from rfl]; exact a3m ho hr hv hl hk k
@[simp] theorem c1W (h : Hp) (o k f : Nat) : a0c tab h a0m (.ptr o k f) = (h.row o k).bind fun row => b1c 3 (row.drop f) := by show (match h.row o k with | some row => _ | none => none) = _; cases h.row o k <;> rfl
theorem b9M {h : Hp} {o T sz kk off : Nat} {rows : List (List D)} {row : List D} {v : D} (ho : h[o]? = some (.row T sz rows)) (hr : rows[kk]? = some row) (hv : (a0z v).length = 1) (hl : off + 1 ≤ row.length) (hk : v.okv = true) {β : Type} {f : Hp → Option β} {Q : β → Prop}
  (k : ∀ h', h'[o]? = some (.row T sz (rows.set kk (spl row off (a0z v)))) → Same o h h' → Wp (f h') Q) : Wp ((a0h tab h ty9 (.ptr o kk off) v).bind f) Q := 
 by rw [show a0h tab h ty9 (.ptr o kk off) v = pSt 1 h (.ptr o kk off) v from rfl]; exact a3m ho hr hv hl hk k
@[simp] theorem a4X (c0 c1 : D) (cs : List D) : a0a tab a0E 1 (.fptr (c0 :: c1 :: cs)) = some (.fptr (c1 :: cs)) := id rfl
@[simp] theorem b1v (o k f : Nat) : a0a tab a0E 1 (.ptr o k f) = some (.ptr o k (f + 1)) := id rfl
@[simp] theorem a4f (c0 c1 c2 : D) (cs : List D) : a0a tab a0E 2 (.fptr (c0 :: c1 :: c2 :: cs)) = some (.fptr (c2 :: cs)) := id rfl
@[simp] theorem a9i (o k f : Nat) : a0a tab a0E 2 (.ptr o k f) = some (.ptr o k (f + 2)) := id rfl
@[simp] theorem a2d (c0 c1 c2 c3 : D) (cs : List D) : a0a tab a0E 3 (.fptr (c0 :: c1 :: c2 :: c3 :: cs)) = some (.fptr (c3 :: cs)) := id rfl
@[simp] theorem a9j (o k f : Nat) : a0a tab a0E 3 (.ptr o k f) = some (.ptr o k (f + 3)) := id rfl
theorem b8o {h : Hp} {o T sz kk off : Nat} {rows : List (List D)} {row : List D} {v : D} (ho : h[o]? = some (.row T sz rows)) (hr : rows[kk]? = some row) (hv : (a0z v).length = 1) (hl : off + 1 ≤ row.length) (hk : v.okv = true) {β : Type} {f : Hp → Option β} {Q : β → Prop}
  (k : ∀ h', h'[o]? = some (.row T sz (rows.set kk (spl row off (a0z v)))) → Same o h h' → Wp (f h') Q) : Wp ((a0h tab h a1u (.ptr o kk off) v).bind f) Q := 
 by rw [show a0h tab h a1u (.ptr o kk off) v = pSt 1 h (.ptr o kk off) v from rfl]; exact a3m ho hr hv hl hk k
@[simp] theorem a9k (o k f : Nat) : a0a tab a0E 5 (.ptr o k f) = some (.ptr o k (f + 5)) := id rfl
@[simp] theorem a9l (o k f : Nat) : a0a tab a0E 6 (.ptr o k f) = some (.ptr o k (f + 6)) := id rfl
@[simp] theorem a9m (o k f : Nat) : a0a tab a0E 7 (.ptr o k f) = some (.ptr o k (f + 7)) := id rfl
@[simp] theorem a9n (o k f : Nat) : a0a tab a0E 8 (.ptr o k f) = some (.ptr o k (f + 8)) := id rfl
theorem c2I {h : Hp} {o T sz kk off : Nat} {rows : List (List D)} {row : List D} {v : D} (ho : h[o]? = some (.row T sz rows)) (hr : rows[kk]? = some row) (hv : (a0z v).length = 1) (hl : off + 1 ≤ row.length) (hk : v.okv = true) {β : Type} {f : Hp → Option β} {Q : β → Prop}
  (k : ∀ h', h'[o]? = some (.row T sz (rows.set kk (spl row off (a0z v)))) → Same o h h' → Wp (f h') Q) : Wp ((a0h tab h a1c (.ptr o kk off) v).bind f) Q := 
 by rw [show a0h tab h a1c (.ptr o kk off) v = pSt 1 h (.ptr o kk off) v from rfl]; exact a3m ho hr hv hl hk k
@[simp] theorem a4q (o k f : Nat) : a0a tab a0m 1 (.ptr o k f) = some (.ptr o k (f + 1)) := id rfl
@[simp] theorem d0Z (h : Hp) (o k f : Nat) : a0c tab h a0E (.ptr o k f) = (h.row o k).bind fun row => b1c 10 (row.drop f) := by show (match h.row o k with | some row => _ | none => none) = _; cases h.row o k <;> rfl
theorem c2J {h : Hp} {o T sz kk off : Nat} {rows : List (List D)} {row : List D} {v : D} (ho : h[o]? = some (.row T sz rows)) (hr : rows[kk]? = some row) (hv : (a0z v).length = 10) (hl : off + 10 ≤ row.length) (hk : v.okv = true) {β : Type} {f : Hp → Option β} {Q : β → Prop}
  (k : ∀ h', h'[o]? = some (.row T sz (rows.set kk (spl row off (a0z v)))) → Same o h h' → Wp (f h') Q) : Wp ((a0h tab h a0E (.ptr o kk off) v).bind f) Q := 
 by rw [show a0h tab h a0E (.ptr o kk off) v = pSt 10 h (.ptr o kk off) v from rfl]; exact a3m ho hr hv hl hk k
@[simp] theorem c6J (o k f : Nat) : a0a tab a4V 0 (.ptr o k f) = some (.ptr o k (f + 0)) := id rfl
@[simp] theorem c6K (o k f : Nat) : a0a tab a4V 1 (.ptr o k f) = some (.ptr o k (f + 1)) := id rfl
@[simp] theorem d2H (k : IntKind) (n : Int) : a0Z tab ty5 ty3 (.int k n) = some (.int .i64 (IntKind.wrap .i64 n)) := id rfl
@[simp] theorem b8C (d0 : D) (d1 : D) (h0 : d0.one = true) (h1 : d1.one = true) : a1h tab a2i 2 [0, 1] [d0, d1] = some (.sl 1 true [[d0], [d1]]) := a5U (T := tab) (t := a2i) (n := 2) (i := a8w) (j := ti22) (id rfl) (id rfl) (id rfl) (id rfl) [d0, d1] rfl (by decide) (by simp [h0, h1])
@[simp] theorem c1o (d0 : D) (h0 : d0.one = true) : a1h tab a4p 1 [0] [d0] = some (.sl 1 true [[d0]]) := a5U (T := tab) (t := a4p) (n := 1) (i := b9I) (j := b8b) (id rfl) (id rfl) (id rfl) (id rfl) [d0] rfl (by decide) (by simp [h0])
theorem c6D {h : Hp} {n0 : Nat} (hn0 : n0 ≤ h.length) {rows : List (List D)} {x y : D} (hx : Own h n0 a0K 1 rows x) {ys : List (List D)} (hy : a1C h 1 y = some ys) (hl : (rows.length + ys.length) * 24 ≤ 140737488355328) {β : Type} {f : D × Hp → Option β} {Q : β → Prop}
  (k : ∀ x' h', Own h' n0 a0K 1 (rows ++ ys) x' → h.length ≤ h'.length → (∀ q, q < n0 → h'[q]? = h[q]?) → (∀ q, q < h.length → ¬ x.inOb q → h'[q]? = h[q]?) → (∀ q, x'.inOb q → x.inOb q ∨ h.length ≤ q) → Wp (f (x', h')) Q) : Wp ((a0C tab h a4p a4p x y).bind f) Q := 
 a7V (T := tab) (i := b9I) (j := b8b) (id rfl) (id rfl) (id rfl) (by decide) hn0 hx hy (a4j hl (by omega)) k
theorem b4E {h : Hp} {n0 : Nat} (hn0 : n0 ≤ h.length) {rows : List (List D)} {x y : D} (hx : Own h n0 a1A 3 rows x) {ys : List (List D)} (hy : a1C h 3 y = some ys) (hl : (rows.length + ys.length) * 32 ≤ 140737488355328) {β : Type} {f : D × Hp → Option β} {Q : β → Prop}
  (k : ∀ x' h', Own h' n0 a1A 3 (rows ++ ys) x' → h.length ≤ h'.length → (∀ q, q < n0 → h'[q]? = h[q]?) → (∀ q, q < h.length → ¬ x.inOb q → h'[q]? = h[q]?) → (∀ q, x'.inOb q → x.inOb q ∨ h.length ≤ q) → Wp (f (x', h')) Q) : Wp ((a0C tab h a1u a1u x y).bind f) Q := 
 a7V (T := tab) (i := d1K) (j := d1M) (id rfl) (id rfl) (id rfl) (by decide) hn0 hx hy (a4j hl (by omega)) k
@[simp] theorem d4u (f : Bool) (rows : List (List D)) (i : Int) : a0b tab a1u (.sl 3 f rows) (.int .i64 i) = if 0 ≤ i then (rows[i.toNat]?).map .fptr else none := by show (if 3 = 3 ∧ 0 ≤ i then (match rows[i.toNat]? with | some row => some (D.fptr row) | none => none) else none) = _; by_cases h : 0 ≤ i <;> simp [h] <;> cases rows[i.toNat]? <;> rfl
@[simp] theorem b9l (o r n : Nat) (i : Int) : a0b tab a1u (.msl 3 o r n) (.int .i64 i) = if 0 ≤ i ∧ i < n then some (.ptr o (r + i.toNat) 0) else none := by show (if 3 = 3 ∧ 0 ≤ i ∧ i < n then some (D.ptr o (r + i.toNat) 0) else none) = _; simp
@[simp] theorem a9u {α : Type} {f : α → List D} {l : List α} {d : D} (h : SlOf 3 f l d) (i : Int) : a0b tab a1u d (.int .i64 i) = if 0 ≤ i then (l[i.toNat]?).map fun p => .fptr (f p) else none := 
 by
  rcases h with ⟨rfl, rfl⟩ | ⟨b, rfl⟩
  ·show none = _; simp
  ·rw [d4u]; simp [Function.comp_def]
@[simp] theorem d2s (c0 c1 c2 : D) (cs : List D) : a0a tab a1A 2 (.fptr (c0 :: c1 :: c2 :: cs)) = some (.fptr (c2 :: cs)) := id rfl
@[simp] theorem a2M (o k f : Nat) : a0a tab a1A 2 (.ptr o k f) = some (.ptr o k (f + 2)) := id rfl
@[simp] theorem c5r (h : Hp) (o k f : Nat) : a0c tab h a1A (.ptr o k f) = (h.row o k).bind fun row => b1c 3 (row.drop f) := by show (match h.row o k with | some row => _ | none => none) = _; cases h.row o k <;> rfl
@[simp] theorem c4x (x0_0 x0_1 x0_2 : D) : a1h tab a1u 1 [0] [.agg [x0_0, x0_1, x0_2]] = some (.sl 3 true [[x0_0, x0_1, x0_2]]) := id rfl
@[simp] theorem a4x (s : List UInt8) : a0y tab ty9 (.str s) = some (.int .i64 s.length) := id rfl
@[simp] theorem b2F (d0 : D) (d1 : D) (d2 : D) (d3 : D) (h0 : d0.one = true) (h1 : d1.one = true) (h2 : d2.one = true) (h3 : d3.one = true) : a1h tab a5Z 4 [0, 1, 2, 3] [d0, d1, d2, d3] = some (.sl 1 true [[d0], [d1], [d2], [d3]]) := a5U (T := tab) (t := a5Z) (n := 4) (i := b8d) (j := b8c) (id rfl) (id rfl) (id rfl) (id rfl) [d0, d1, d2, d3] rfl (by decide) (by simp [h0, h1, h2, h3])
@[simp] theorem b6D (z : Nat) (f : Bool) (rows : List (List D)) : a0y tab a5Z (.sl z f rows) = some (.int .i64 rows.length) := id rfl
@[simp] theorem b0H (f : Bool) (rows : List (List D)) (i : Int) : a0b tab a5Z (.sl 1 f rows) (.int .i64 i) = if 0 ≤ i then (rows[i.toNat]?).map .fptr else none := by show (if 1 = 1 ∧ 0 ≤ i then (match rows[i.toNat]? with | some row => some (D.fptr row) | none => none) else none) = _; by_cases h : 0 ≤ i <;> simp [h] <;> cases rows[i.toNat]? <;> rfl
@[simp] theorem b0J (c : D) (cs : List D) (h : Hp) : a0c tab h c0O (.fptr (c :: cs)) = some c := id rfl
@[simp] theorem a3b (o k f : Nat) : a0a tab a1A 0 (.ptr o k f) = some (.ptr o k (f + 0)) := id rfl
@[simp] theorem a3c (o k f : Nat) : a0a tab a1A 1 (.ptr o k f) = some (.ptr o k (f + 1)) := id rfl
@[simp] theorem c4z (x0_0 x0_1 : D) : a1h tab a1c 1 [0] [.agg [x0_0, x0_1]] = some (.sl 2 true [[x0_0, x0_1]]) := id rfl
theorem b9L {h : Hp} {n0 : Nat} (hn0 : n0 ≤ h.length) {rows : List (List D)} {x y : D} (hx : Own h n0 a0w 2 rows x) {ys : List (List D)} (hy : a1C h 2 y = some ys) (hl : (rows.length + ys.length) * 32 ≤ 140737488355328) {β : Type} {f : D × Hp → Option β} {Q : β → Prop}
  (k : ∀ x' h', Own h' n0 a0w 2 (rows ++ ys) x' → h.length ≤ h'.length → (∀ q, q < n0 → h'[q]? = h[q]?) → (∀ q, q < h.length → ¬ x.inOb q → h'[q]? = h[q]?) → (∀ q, x'.inOb q → x.inOb q ∨ h.length ≤ q) → Wp (f (x', h')) Q) : Wp ((a0C tab h a1c a1c x y).bind f) Q := 
 a7V (T := tab) (i := c7c) (j := ti109) (id rfl) (id rfl) (id rfl) (by decide) hn0 hx hy (a4j hl (by omega)) k
@[simp] theorem d4v (f : Bool) (rows : List (List D)) (i : Int) : a0b tab a1c (.sl 2 f rows) (.int .i64 i) = if 0 ≤ i then (rows[i.toNat]?).map .fptr else none := by show (if 2 = 2 ∧ 0 ≤ i then (match rows[i.toNat]? with | some row => some (D.fptr row) | none => none) else none) = _; by_cases h : 0 ≤ i <;> simp [h] <;> cases rows[i.toNat]? <;> rfl
@[simp] theorem a7R (o r n : Nat) (i : Int) : a0b tab a1c (.msl 2 o r n) (.int .i64 i) = if 0 ≤ i ∧ i < n then some (.ptr o (r + i.toNat) 0) else none := by show (if 2 = 2 ∧ 0 ≤ i ∧ i < n then some (D.ptr o (r + i.toNat) 0) else none) = _; simp
@[simp] theorem a7S {α : Type} {f : α → List D} {l : List α} {d : D} (h : SlOf 2 f l d) (i : Int) : a0b tab a1c d (.int .i64 i) = if 0 ≤ i then (l[i.toNat]?).map fun p => .fptr (f p) else none := 
 by
  rcases h with ⟨rfl, rfl⟩ | ⟨b, rfl⟩
  ·show none = _; simp
  ·rw [d4v]; simp [Function.comp_def]
@[simp] theorem a5J (o k f : Nat) : a0a tab a0w 0 (.ptr o k f) = some (.ptr o k (f + 0)) := id rfl
@[simp] theorem c8Y (c0 c1 : D) (cs : List D) : a0a tab a0w 1 (.fptr (c0 :: c1 :: cs)) = some (.fptr (c1 :: cs)) := id rfl
@[simp] theorem a9h (o k f : Nat) : a0a tab a0w 1 (.ptr o k f) = some (.ptr o k (f + 1)) := id rfl
@[simp] theorem a7i (k : IntKind) (n : Int) : a0Z tab ty3 a5m (.int k n) = some (.int .u64 (IntKind.wrap .u64 n)) := id rfl
theorem d2i {h : Hp} {o T sz kk off : Nat} {rows : List (List D)} {row : List D} {v : D} (ho : h[o]? = some (.row T sz rows)) (hr : rows[kk]? = some row) (hv : (a0z v).length = 1) (hl : off + 1 ≤ row.length) (hk : v.okv = true) {β : Type} {f : Hp → Option β} {Q : β → Prop}
  (k : ∀ h', h'[o]? = some (.row T sz (rows.set kk (spl row off (a0z v)))) → Same o h h' → Wp (f h') Q) : Wp ((a0h tab h ty4 (.ptr o kk off) v).bind f) Q := 
 by rw [show a0h tab h ty4 (.ptr o kk off) v = pSt 1 h (.ptr o kk off) v from rfl]; exact a3m ho hr hv hl hk k
@[simp] theorem b3u (h : Hp) (o k f : Nat) : a0c tab h a0w (.ptr o k f) = (h.row o k).bind fun row => b1c 2 (row.drop f) := by show (match h.row o k with | some row => _ | none => none) = _; cases h.row o k <;> rfl
@[simp] theorem d2o (a0 b0 : Int) (a1 b1 : Int) (a2 b2 : List UInt8) : a0k tab .neq a1A (.agg [.int .i64 a0, .int .i64 a1, .str a2]) (.agg [.int .i64 b0, .int .i64 b1, .str b2]) = some (.bool (!(a0 == b0 && (a1 == b1 && (a2 == b2 && true))))) := id rfl
@[simp] theorem c7h (a0 b0 : List UInt8) (a1 b1 : List UInt8) : a0k tab .neq a0w (.agg [.str a0, .str a1]) (.agg [.str b0, .str b1]) = some (.bool (!(a0 == b0 && (a1 == b1 && true)))) := id rfl
@[simp] theorem b4b (n0 : Int) (n1 : Int) (n2 : Int) : a0X tab a0E [0, 1, 2] [.int .i64 n0, .int .i64 n1, .int .i64 n2] = some (.agg [.int .i64 n0, .int .i64 n1, .int .i64 n2, .int .i64 0, .nils, .int .i64 0, .int .i64 0, .str [], .str [], .nils]) := id rfl
@[simp] theorem b4c (n0 : Int) (n1 : Int) (s2 : List UInt8) : a0X tab a1A [0, 1, 2] [.int .i64 n0, .int .i64 n1, .str s2] = some (.agg [.int .i64 n0, .int .i64 n1, .str s2]) := id rfl
def lt98_4 : List (List UInt8) := [[115, 97, 109, 112, 108, 101], [100, 114, 111, 112], [116, 111, 111, 45, 108, 111, 110, 103]]
@[simp] theorem b6R : a1h tab a5r 3 [0, 1, 2] [.str [115, 97, 109, 112, 108, 101], .str [100, 114, 111, 112], .str [116, 111, 111, 45, 108, 111, 110, 103]] = some (.sl 1 true (lt98_4.map fun s => [.str s])) := id rfl
@[simp] theorem c5e (f : Bool) (rows : List (List D)) (i : Int) : a0b tab a5r (.sl 1 f rows) (.int .i64 i) = if 0 ≤ i then (rows[i.toNat]?).map .fptr else none := by show (if 1 = 1 ∧ 0 ≤ i then (match rows[i.toNat]? with | some row => some (D.fptr row) | none => none) else none) = _; by_cases h : 0 ≤ i <;> simp [h] <;> cases rows[i.toNat]? <;> rfl
@[simp] theorem b8A (s0 : List UInt8) (x1_0 x1_1 x1_2 x1_3 x1_4 x1_5 x1_6 x1_7 x1_8 x1_9 : D) : a0X tab a0D [0, 1] [.str s0, .agg [x1_0, x1_1, x1_2, x1_3, x1_4, x1_5, x1_6, x1_7, x1_8, x1_9]] = some (.agg [.str s0, x1_0, x1_1, x1_2, x1_3, x1_4, x1_5, x1_6, x1_7, x1_8, x1_9]) := id rfl
def lt98_5 : List (List UInt8) := [[116, 49], [116, 50], [], [49, 58, 50, 58, 48]]
@[simp] theorem b6S : a1h tab a5r 4 [0, 1, 2, 3] [.str [116, 49], .str [116, 50], .str [], .str [49, 58, 50, 58, 48]] = some (.sl 1 true (lt98_5.map fun s => [.str s])) := id rfl
def lt98_6 : List (List UInt8) := [[109, 97, 105, 110], [100, 101, 98, 117, 103]]
@[simp] theorem b6T : a1h tab a5r 2 [0, 1] [.str [109, 97, 105, 110], .str [100, 101, 98, 117, 103]] = some (.sl 1 true (lt98_6.map fun s => [.str s])) := id rfl
@[simp] theorem c4u (x0_0 x0_1 x0_2 x0_3 x0_4 x0_5 x0_6 x0_7 x0_8 x0_9 : D) : a0X tab a0D [1] [.agg [x0_0, x0_1, x0_2, x0_3, x0_4, x0_5, x0_6, x0_7, x0_8, x0_9]] = some (.agg [.str [], x0_0, x0_1, x0_2, x0_3, x0_4, x0_5, x0_6, x0_7, x0_8, x0_9]) := id rfl
theorem d2j {h : Hp} {o T sz kk off : Nat} {rows : List (List D)} {row : List D} {v : D} (ho : h[o]? = some (.row T sz rows)) (hr : rows[kk]? = some row) (hv : (a0z v).length = 3) (hl : off + 3 ≤ row.length) (hk : v.okv = true) {β : Type} {f : Hp → Option β} {Q : β → Prop}
  (k : ∀ h', h'[o]? = some (.row T sz (rows.set kk (spl row off (a0z v)))) → Same o h h' → Wp (f h') Q) : Wp ((a0h tab h a1A (.ptr o kk off) v).bind f) Q := 
 by rw [show a0h tab h a1A (.ptr o kk off) v = pSt 3 h (.ptr o kk off) v from rfl]; exact a3m ho hr hv hl hk k
@[simp] theorem c4y  : a1h tab a1c 0 [] [] = some (.sl 2 true []) := id rfl
def lt98_7 : List (List UInt8) := [[32], [32], [44, 32], [61], []]
@[simp] theorem b6U : a1h tab a5r 5 [0, 1, 2, 3, 4] [.str [32], .str [32], .str [44, 32], .str [61], .str []] = some (.sl 1 true (lt98_7.map fun s => [.str s])) := id rfl
def lt82_8 : List Int := [1, 1, 2, 5, 10, 5040]
@[simp] theorem c5w : a1h tab b1i 6 [0, 1, 2, 3, 4, 5] [.int .i64 1, .int .i64 1, .int .i64 2, .int .i64 5, .int .i64 10, .int .i64 5040] = some (.sl 1 true (lt82_8.map fun n => [.int .i64 n])) := id rfl
def lt98_9 : List (List UInt8) := [[99, 111, 100, 101], [108, 101, 118, 101, 108], [109, 115], [117, 115, 101, 114]]
@[simp] theorem b4v : lt98_9.length = 4 := id rfl
@[simp] theorem b6V : a1h tab a5r 4 [0, 1, 2, 3] [.str [99, 111, 100, 101], .str [108, 101, 118, 101, 108], .str [109, 115], .str [117, 115, 101, 114]] = some (.sl 1 true (lt98_9.map fun s => [.str s])) := id rfl
@[simp] theorem d1a (z : Nat) (f : Bool) (rows : List (List D)) : a0y tab a5r (.sl z f rows) = some (.int .i64 rows.length) := id rfl
@[simp] theorem b4R (s0 : List UInt8) (s1 : List UInt8) : a0X tab a0w [0, 1] [.str s0, .str s1] = some (.agg [.str s0, .str s1]) := id rfl
theorem a5a {h : Hp} {o T sz kk off : Nat} {rows : List (List D)} {row : List D} {v : D} (ho : h[o]? = some (.row T sz rows)) (hr : rows[kk]? = some row) (hv : (a0z v).length = 2) (hl : off + 2 ≤ row.length) (hk : v.okv = true) {β : Type} {f : Hp → Option β} {Q : β → Prop}
  (k : ∀ h', h'[o]? = some (.row T sz (rows.set kk (spl row off (a0z v)))) → Same o h h' → Wp (f h') Q) : Wp ((a0h tab h a0w (.ptr o kk off) v).bind f) Q := 
 by rw [show a0h tab h a0w (.ptr o kk off) v = pSt 2 h (.ptr o kk off) v from rfl]; exact a3m ho hr hv hl hk k
def lt98_10 : List (List UInt8) := [[103, 101, 116], [101, 114, 114, 111, 114], [119, 97, 114, 110], [97, 49], [117, 115, 101, 114, 95, 55], [120], [84, 105, 109, 101, 111, 117, 116], [50, 48, 48], [71, 69, 84], [101, 114, 114, 111], [122], [], [255], [97, 46, 98]]
@[simp] theorem c2b : lt98_10.length = 14 := id rfl
@[simp] theorem c2R : a1h tab a5r 14 [0, 1, 2, 3, 4, 5, 6, 7, 8, 9, 10, 11, 12, 13] [.str [103, 101, 116], .str [101, 114, 114, 111, 114], .str [119, 97, 114, 110], .str [97, 49], .str [117, 115, 101, 114, 95, 55], .str [120], .str [84, 105, 109, 101, 111, 117, 116], .str [50, 48, 48], .str [71, 69, 84], .str [101, 114, 114, 111], .str [122], .str [], .str [255], .str [97, 46, 98]] = some (.sl 1 true (lt98_10.map fun s => [.str s])) := id rfl
def lt98_1 : List (List UInt8) := [[119, 97, 114, 110], [105, 110, 102, 111], [55], [45, 51], [51, 49], [], [120, 32, 121], [57, 57, 57, 57, 57, 57, 57, 57, 57, 57, 57, 57, 57, 57, 57, 57, 57, 57], [49, 48, 48, 48, 48, 48, 48, 48, 48, 48, 48, 48, 48, 48, 48, 48, 48, 48, 48], [48, 55], [45]]
@[simp] theorem c2S : lt98_1.length = 11 := id rfl
@[simp] theorem c5x : a1h tab a5r 11 [0, 1, 2, 3, 4, 5, 6, 7, 8, 9, 10] [.str [119, 97, 114, 110], .str [105, 110, 102, 111], .str [55], .str [45, 51], .str [51, 49], .str [], .str [120, 32, 121], .str [57, 57, 57, 57, 57, 57, 57, 57, 57, 57, 57, 57, 57, 57, 57, 57, 57, 57], .str [49, 48, 48, 48, 48, 48, 48, 48, 48, 48, 48, 48, 48, 48, 48, 48, 48, 48, 48], .str [48, 55], .str [45]] = some (.sl 1 true (lt98_1.map fun s => [.str s])) := id rfl
@[simp] theorem a8Z (k : IntKind) (n : Int) : a0Z tab a5m ty3 (.int k n) = some (.int .i64 (IntKind.wrap .i64 n)) := id rfl
@[simp] theorem a3V (d : D) (xs : List D) (h : Hp) : a2L tab R "logtide/event.count" (.iface a4K d :: xs) h = R b6c (d :: xs) h := by kernel_rfl
@[simp] theorem a2s (d : D) (xs : List D) (h : Hp) : a2L tab R "logtide/event.number" (.iface a4K d :: xs) h = R b6d (d :: xs) h := by kernel_rfl
@[simp] theorem a3k (d : D) (xs : List D) (h : Hp) : a2L tab R "logtide/event.text" (.iface a4K d :: xs) h = R b6e (d :: xs) h := by kernel_rfl
@[simp] theorem a3W (d : D) (xs : List D) (h : Hp) : a2L tab R "logtide/event.count" (.iface a3J d :: xs) h = R b3l (d :: xs) h := by kernel_rfl
@[simp] theorem a1L (d : D) (xs : List D) (h : Hp) : a2L tab R "logtide/event.number" (.iface a3J d :: xs) h = R b3m (d :: xs) h := by kernel_rfl
@[simp] theorem a2P (d : D) (xs : List D) (h : Hp) : a2L tab R "logtide/event.text" (.iface a3J d :: xs) h = R b3n (d :: xs) h := by kernel_rfl
end Go.Proofs.YthaajlepgblimaaGreatDoor
