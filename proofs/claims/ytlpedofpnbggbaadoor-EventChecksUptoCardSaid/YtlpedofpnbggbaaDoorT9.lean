/- Operations at the types of this seat. -/
import Derived.Test.YtlpedofpnbggbaaDoorC2
import Derived.Test.YtlpedofpnbggbaaDoorPiZ
set_option linter.unusedSimpArgs false
set_option linter.unusedVariables false
set_option linter.unnecessarySimpa false
set_option maxRecDepth 20000
set_option maxHeartbeats 2000000
namespace Go.Proofs.YtlpedofpnbggbaaDoor
open Go.Eng Go.Pi
@[simp] theorem fap74_1 (o k f : Nat) : dFieldAddr tab ty74 1 (.ptr o k f) = some (.ptr o k (f + 1)) := id rfl
@[simp] theorem fa31_4 (c0 c1 c2 c3 c4 : D) (cs : List D) : dFieldAddr tab ty31 4 (.fptr (c0 :: c1 :: c2 :: c3 :: c4 :: cs)) = some (.fptr (c4 :: cs)) := id rfl
@[simp] theorem fap31_4 (o k f : Nat) : dFieldAddr tab ty31 4 (.ptr o k f) = some (.ptr o k (f + 4)) := id rfl
@[simp] theorem ld28 (c : D) (cs : List D) (h : Hp) : dLoad tab h ty28 (.fptr (c :: cs)) = some c := id rfl
@[simp] theorem ldp28 (h : Hp) (o k f : Nat) : dLoad tab h ty28 (.ptr o k f) = (h.row o k).bind fun row => (row.drop f).head? := by show (match h.row o k with | some row => _ | none => none) = _; cases h.row o k <;> rfl
@[simp] theorem lens28 {α : Type} {f : α → List D} {l : List α} {d : D} (h : SlOf 3 f l d) : dLenT tab ty28 d = some (.int .i64 l.length) := 
  by rcases h with ⟨rfl, rfl⟩ | ⟨b, rfl⟩
     · rfl
     · show some (D.int .i64 ((l.map f).length : Nat)) = _; simp
theorem leno28 {h : Hp} {n0 e z : Nat} {rows : List (List D)} {d : D} (hd : Own h n0 e z rows d) : dLenT tab ty28 d = some (.int .i64 rows.length) := by
  rcases hd with ⟨rfl, rfl⟩ | ⟨o, _, rfl, _⟩ <;> rfl
@[simp] theorem lenm28 (z o r n : Nat) : dLenT tab ty28 (.msl z o r n) = some (.int .i64 n) := id rfl
@[simp] theorem fa31_9 (c0 c1 c2 c3 c4 c5 c6 c7 c8 c9 : D) (cs : List D) : dFieldAddr tab ty31 9 (.fptr (c0 :: c1 :: c2 :: c3 :: c4 :: c5 :: c6 :: c7 :: c8 :: c9 :: cs)) = some (.fptr (c9 :: cs)) := id rfl
@[simp] theorem fap31_9 (o k f : Nat) : dFieldAddr tab ty31 9 (.ptr o k f) = some (.ptr o k (f + 9)) := id rfl
@[simp] theorem ld29 (c : D) (cs : List D) (h : Hp) : dLoad tab h ty29 (.fptr (c :: cs)) = some c := id rfl
@[simp] theorem ldp29 (h : Hp) (o k f : Nat) : dLoad tab h ty29 (.ptr o k f) = (h.row o k).bind fun row => (row.drop f).head? := by show (match h.row o k with | some row => _ | none => none) = _; cases h.row o k <;> rfl
@[simp] theorem lens29 {α : Type} {f : α → List D} {l : List α} {d : D} (h : SlOf 2 f l d) : dLenT tab ty29 d = some (.int .i64 l.length) := 
  by rcases h with ⟨rfl, rfl⟩ | ⟨b, rfl⟩
     · rfl
     · show some (D.int .i64 ((l.map f).length : Nat)) = _; simp
theorem leno29 {h : Hp} {n0 e z : Nat} {rows : List (List D)} {d : D} (hd : Own h n0 e z rows d) : dLenT tab ty29 d = some (.int .i64 rows.length) := by
  rcases hd with ⟨rfl, rfl⟩ | ⟨o, _, rfl, _⟩ <;> rfl
@[simp] theorem lenm29 (z o r n : Nat) : dLenT tab ty29 (.msl z o r n) = some (.int .i64 n) := id rfl
theorem wst74 {h : Hp} {o T sz kk off : Nat} {rows : List (List D)} {row : List D} {v : D} (ho : h[o]? = some (.row T sz rows)) (hr : rows[kk]? = some row) (hv : (cells1 v).length = 11) (hl : off + 11 ≤ row.length) (hk : v.okv = true) {β : Type} {f : Hp → Option β} {Q : β → Prop}
    (k : ∀ h', h'[o]? = some (.row T sz (rows.set kk (spl row off (cells1 v)))) → Same o h h' → Wp (f h') Q) : Wp ((dStore tab h ty74 (.ptr o kk off) v).bind f) Q := 
  by rw [show dStore tab h ty74 (.ptr o kk off) v = pSt 11 h (.ptr o kk off) v from rfl]; exact pSt_wp ho hr hv hl hk k
@[simp] theorem ldp74 (h : Hp) (o k f : Nat) : dLoad tab h ty74 (.ptr o k f) = (h.row o k).bind fun row => takeN 11 (row.drop f) := by show (match h.row o k with | some row => _ | none => none) = _; cases h.row o k <;> rfl
@[simp] theorem lens113 {α : Type} {f : α → List D} {l : List α} {d : D} (h : SlOf 11 f l d) : dLenT tab ty113 d = some (.int .i64 l.length) := 
  by rcases h with ⟨rfl, rfl⟩ | ⟨b, rfl⟩
     · rfl
     · show some (D.int .i64 ((l.map f).length : Nat)) = _; simp
@[simp] theorem ix113 (f : Bool) (rows : List (List D)) (i : Int) : dIndexAddr tab ty113 (.sl 11 f rows) (.int .i64 i) = if 0 ≤ i then (rows[i.toNat]?).map .fptr else none := by show (if 11 = 11 ∧ 0 ≤ i then (match rows[i.toNat]? with | some row => some (D.fptr row) | none => none) else none) = _; by_cases h : 0 ≤ i <;> simp [h] <;> cases rows[i.toNat]? <;> rfl
@[simp] theorem ixs113 {α : Type} {f : α → List D} {l : List α} {d : D} (h : SlOf 11 f l d) (i : Int) : dIndexAddr tab ty113 d (.int .i64 i) = if 0 ≤ i then (l[i.toNat]?).map fun p => .fptr (f p) else none := 
  by rcases h with ⟨rfl, rfl⟩ | ⟨b, rfl⟩
     · show none = _; simp
     · rw [ix113]; simp [Function.comp_def]
@[simp] theorem ldp31 (h : Hp) (o k f : Nat) : dLoad tab h ty31 (.ptr o k f) = (h.row o k).bind fun row => takeN 10 (row.drop f) := by show (match h.row o k with | some row => _ | none => none) = _; cases h.row o k <;> rfl
@[simp] theorem bneq4 (a b : Bool) : dBin tab .neq ty4 (.bool a) (.bool b) = some (.bool (!(a == b))) := id rfl
@[simp] theorem bd78_1 (n0 : Int) : dBuild tab ty78 [1] [.int .i64 n0] = some (.agg [.int .i64 0, .int .i64 n0, .str []]) := id rfl
@[simp] theorem bd78_0_1_2 (n0 : Int) (n1 : Int) (s2 : List UInt8) : dBuild tab ty78 [0, 1, 2] [.int .i64 n0, .int .i64 n1, .str s2] = some (.agg [.int .i64 n0, .int .i64 n1, .str s2]) := id rfl
@[simp] theorem bs28_2 (x0_0 x0_1 x0_2 : D) (x1_0 x1_1 x1_2 : D) : pLitF tab ty28 2 [0, 1] [.agg [x0_0, x0_1, x0_2], .agg [x1_0, x1_1, x1_2]] = some (.sl 3 true [[x0_0, x0_1, x0_2], [x1_0, x1_1, x1_2]]) := id rfl
@[simp] theorem bd31_3_6_4 (n0 : Int) (n1 : Int) (d2 : D) (h2 : d2.one = true) : dBuild tab ty31 [3, 6, 4] [.int .i64 n0, .int .i64 n1, d2] = some (.agg [.int .i64 0, .int .i64 0, .int .i64 0, .int .i64 n0, d2, .int .i64 0, .int .i64 n1, .str [], .str [], .nils]) := by
  have c2 := one_cells h2
  refine bd_of (T := tab) (i := ti31) (fs := [(3, 0, 1), (3, 1, 1), (3, 2, 1), (3, 3, 1), (22, 4, 1), (3, 5, 1), (3, 6, 1), (9, 7, 1), (9, 8, 1), (23, 9, 1)]) (id rfl) (id rfl) ?_
  rw [show ti31.zero = [.int .i64 0, .int .i64 0, .int .i64 0, .int .i64 0, .nils, .int .i64 0, .int .i64 0, .str [], .str [], .nils] from id rfl]
  rw [fill_step (off := 3) (sz := 1) (id rfl) (id rfl) (by simp [spl, cells1_int, cells1_str, cells1_bool, cells1_agg]) (id rfl)]
  rw [fill_step (off := 6) (sz := 1) (id rfl) (id rfl) (by simp [spl, cells1_int, cells1_str, cells1_bool, cells1_agg]) (id rfl)]
  rw [fill_step (off := 4) (sz := 1) (id rfl) (by rw [c2.1]; rfl) (by simp [spl, cells1_int, cells1_str, cells1_bool, cells1_agg]) c2.2, c2.1]
  exact id rfl
theorem wst31 {h : Hp} {o T sz kk off : Nat} {rows : List (List D)} {row : List D} {v : D} (ho : h[o]? = some (.row T sz rows)) (hr : rows[kk]? = some row) (hv : (cells1 v).length = 10) (hl : off + 10 ≤ row.length) (hk : v.okv = true) {β : Type} {f : Hp → Option β} {Q : β → Prop}
    (k : ∀ h', h'[o]? = some (.row T sz (rows.set kk (spl row off (cells1 v)))) → Same o h h' → Wp (f h') Q) : Wp ((dStore tab h ty31 (.ptr o kk off) v).bind f) Q := 
  by rw [show dStore tab h ty31 (.ptr o kk off) v = pSt 10 h (.ptr o kk off) v from rfl]; exact pSt_wp ho hr hv hl hk k
@[simp] theorem fa31_2 (c0 c1 c2 : D) (cs : List D) : dFieldAddr tab ty31 2 (.fptr (c0 :: c1 :: c2 :: cs)) = some (.fptr (c2 :: cs)) := id rfl
@[simp] theorem fap31_2 (o k f : Nat) : dFieldAddr tab ty31 2 (.ptr o k f) = some (.ptr o k (f + 2)) := id rfl
@[simp] theorem ld3 (c : D) (cs : List D) (h : Hp) : dLoad tab h ty3 (.fptr (c :: cs)) = some c := id rfl
@[simp] theorem ldp3 (h : Hp) (o k f : Nat) : dLoad tab h ty3 (.ptr o k f) = (h.row o k).bind fun row => (row.drop f).head? := by show (match h.row o k with | some row => _ | none => none) = _; cases h.row o k <;> rfl
@[simp] theorem len22 (z : Nat) (f : Bool) (rows : List (List D)) : dLenT tab ty22 (.sl z f rows) = some (.int .i64 rows.length) := id rfl
@[simp] theorem lenm22 (z o r n : Nat) : dLenT tab ty22 (.msl z o r n) = some (.int .i64 n) := id rfl
@[simp] theorem bd80_0 (d0 : D) (h0 : d0.one = true) : dBuild tab ty80 [0] [d0] = some (.agg [d0, .int .i64 0]) := by
  have c0 := one_cells h0
  refine bd_of (T := tab) (i := ti80) (fs := [(28, 0, 1), (3, 1, 1)]) (id rfl) (id rfl) ?_
  rw [show ti80.zero = [.nils, .int .i64 0] from id rfl]
  rw [fill_step (off := 0) (sz := 1) (id rfl) (by rw [c0.1]; rfl) (by simp [spl, cells1_int, cells1_str, cells1_bool, cells1_agg]) c0.2, c0.1]
  exact id rfl
@[simp] theorem fa31_0 (c0 : D) (cs : List D) : dFieldAddr tab ty31 0 (.fptr (c0 :: cs)) = some (.fptr (c0 :: cs)) := id rfl
@[simp] theorem fap31_0 (o k f : Nat) : dFieldAddr tab ty31 0 (.ptr o k f) = some (.ptr o k (f + 0)) := id rfl
@[simp] theorem fa31_1 (c0 c1 : D) (cs : List D) : dFieldAddr tab ty31 1 (.fptr (c0 :: c1 :: cs)) = some (.fptr (c1 :: cs)) := id rfl
@[simp] theorem fap31_1 (o k f : Nat) : dFieldAddr tab ty31 1 (.ptr o k f) = some (.ptr o k (f + 1)) := id rfl
@[simp] theorem fa31_3 (c0 c1 c2 c3 : D) (cs : List D) : dFieldAddr tab ty31 3 (.fptr (c0 :: c1 :: c2 :: c3 :: cs)) = some (.fptr (c3 :: cs)) := id rfl
@[simp] theorem fap31_3 (o k f : Nat) : dFieldAddr tab ty31 3 (.ptr o k f) = some (.ptr o k (f + 3)) := id rfl
@[simp] theorem bd31_0_1_2_3 (n0 : Int) (n1 : Int) (n2 : Int) (n3 : Int) : dBuild tab ty31 [0, 1, 2, 3] [.int .i64 n0, .int .i64 n1, .int .i64 n2, .int .i64 n3] = some (.agg [.int .i64 n0, .int .i64 n1, .int .i64 n2, .int .i64 n3, .nils, .int .i64 0, .int .i64 0, .str [], .str [], .nils]) := id rfl
@[simp] theorem ix28 (f : Bool) (rows : List (List D)) (i : Int) : dIndexAddr tab ty28 (.sl 3 f rows) (.int .i64 i) = if 0 ≤ i then (rows[i.toNat]?).map .fptr else none := by show (if 3 = 3 ∧ 0 ≤ i then (match rows[i.toNat]? with | some row => some (D.fptr row) | none => none) else none) = _; by_cases h : 0 ≤ i <;> simp [h] <;> cases rows[i.toNat]? <;> rfl
@[simp] theorem ixm28 (o r n : Nat) (i : Int) : dIndexAddr tab ty28 (.msl 3 o r n) (.int .i64 i) = if 0 ≤ i ∧ i < n then some (.ptr o (r + i.toNat) 0) else none := by show (if 3 = 3 ∧ 0 ≤ i ∧ i < n then some (D.ptr o (r + i.toNat) 0) else none) = _; simp
@[simp] theorem ixs28 {α : Type} {f : α → List D} {l : List α} {d : D} (h : SlOf 3 f l d) (i : Int) : dIndexAddr tab ty28 d (.int .i64 i) = if 0 ≤ i then (l[i.toNat]?).map fun p => .fptr (f p) else none := 
  by rcases h with ⟨rfl, rfl⟩ | ⟨b, rfl⟩
     · show none = _; simp
     · rw [ix28]; simp [Function.comp_def]
@[simp] theorem fa78_0 (c0 : D) (cs : List D) : dFieldAddr tab ty78 0 (.fptr (c0 :: cs)) = some (.fptr (c0 :: cs)) := id rfl
@[simp] theorem fap78_0 (o k f : Nat) : dFieldAddr tab ty78 0 (.ptr o k f) = some (.ptr o k (f + 0)) := id rfl
@[simp] theorem fa78_1 (c0 c1 : D) (cs : List D) : dFieldAddr tab ty78 1 (.fptr (c0 :: c1 :: cs)) = some (.fptr (c1 :: cs)) := id rfl
@[simp] theorem fap78_1 (o k f : Nat) : dFieldAddr tab ty78 1 (.ptr o k f) = some (.ptr o k (f + 1)) := id rfl
@[simp] theorem bd78_0_1 (n0 : Int) (n1 : Int) : dBuild tab ty78 [0, 1] [.int .i64 n0, .int .i64 n1] = some (.agg [.int .i64 n0, .int .i64 n1, .str []]) := id rfl
@[simp] theorem bs28_1 (x0_0 x0_1 x0_2 : D) : pLitF tab ty28 1 [0] [.agg [x0_0, x0_1, x0_2]] = some (.sl 3 true [[x0_0, x0_1, x0_2]]) := id rfl
theorem wap28 {h : Hp} {n0 : Nat} (hn0 : n0 ≤ h.length) {rows : List (List D)} {x y : D} (hx : Own h n0 ty78 3 rows x) {ys : List (List D)} (hy : dRowsOf h 3 y = some ys) (hl : (rows.length + ys.length) * 32 ≤ 140737488355328) {β : Type} {f : D × Hp → Option β} {Q : β → Prop}
    (k : ∀ x' h', Own h' n0 ty78 3 (rows ++ ys) x' → h.length ≤ h'.length → (∀ q, q < n0 → h'[q]? = h[q]?) → (∀ q, q < h.length → ¬ x.inOb q → h'[q]? = h[q]?) → (∀ q, x'.inOb q → x.inOb q ∨ h.length ≤ q) → Wp (f (x', h')) Q) : Wp ((dAppend tab h ty28 ty28 x y).bind f) Q := 
  app_wp (T := tab) (i := ti28) (j := ti78) (id rfl) (id rfl) (id rfl) (by decide) hn0 hx hy (lim_ok hl (by omega)) k
theorem wst28 {h : Hp} {o T sz kk off : Nat} {rows : List (List D)} {row : List D} {v : D} (ho : h[o]? = some (.row T sz rows)) (hr : rows[kk]? = some row) (hv : (cells1 v).length = 1) (hl : off + 1 ≤ row.length) (hk : v.okv = true) {β : Type} {f : Hp → Option β} {Q : β → Prop}
    (k : ∀ h', h'[o]? = some (.row T sz (rows.set kk (spl row off (cells1 v)))) → Same o h h' → Wp (f h') Q) : Wp ((dStore tab h ty28 (.ptr o kk off) v).bind f) Q := 
  by rw [show dStore tab h ty28 (.ptr o kk off) v = pSt 1 h (.ptr o kk off) v from rfl]; exact pSt_wp ho hr hv hl hk k
def lt98_35 : List (List UInt8) := [[115, 97, 109, 112, 108, 101], [116, 111, 111, 45, 108, 111, 110, 103], [114, 49]]
@[simp] theorem lt98_35_ok : pLitF tab ty98 3 [0, 1, 2] [.str [115, 97, 109, 112, 108, 101], .str [116, 111, 111, 45, 108, 111, 110, 103], .str [114, 49]] = some (.sl 1 true (lt98_35.map fun s => [.str s])) := id rfl
@[simp] theorem bd74_0_1 (s0 : List UInt8) (x1_0 x1_1 x1_2 x1_3 x1_4 x1_5 x1_6 x1_7 x1_8 x1_9 : D) : dBuild tab ty74 [0, 1] [.str s0, .agg [x1_0, x1_1, x1_2, x1_3, x1_4, x1_5, x1_6, x1_7, x1_8, x1_9]] = some (.agg [.str s0, x1_0, x1_1, x1_2, x1_3, x1_4, x1_5, x1_6, x1_7, x1_8, x1_9]) := id rfl
theorem wap29 {h : Hp} {n0 : Nat} (hn0 : n0 ≤ h.length) {rows : List (List D)} {x y : D} (hx : Own h n0 ty109 2 rows x) {ys : List (List D)} (hy : dRowsOf h 2 y = some ys) (hl : (rows.length + ys.length) * 32 ≤ 140737488355328) {β : Type} {f : D × Hp → Option β} {Q : β → Prop}
    (k : ∀ x' h', Own h' n0 ty109 2 (rows ++ ys) x' → h.length ≤ h'.length → (∀ q, q < n0 → h'[q]? = h[q]?) → (∀ q, q < h.length → ¬ x.inOb q → h'[q]? = h[q]?) → (∀ q, x'.inOb q → x.inOb q ∨ h.length ≤ q) → Wp (f (x', h')) Q) : Wp ((dAppend tab h ty29 ty29 x y).bind f) Q := 
  app_wp (T := tab) (i := ti29) (j := ti109) (id rfl) (id rfl) (id rfl) (by decide) hn0 hx hy (lim_ok hl (by omega)) k
theorem wst29 {h : Hp} {o T sz kk off : Nat} {rows : List (List D)} {row : List D} {v : D} (ho : h[o]? = some (.row T sz rows)) (hr : rows[kk]? = some row) (hv : (cells1 v).length = 1) (hl : off + 1 ≤ row.length) (hk : v.okv = true) {β : Type} {f : Hp → Option β} {Q : β → Prop}
    (k : ∀ h', h'[o]? = some (.row T sz (rows.set kk (spl row off (cells1 v)))) → Same o h h' → Wp (f h') Q) : Wp ((dStore tab h ty29 (.ptr o kk off) v).bind f) Q := 
  by rw [show dStore tab h ty29 (.ptr o kk off) v = pSt 1 h (.ptr o kk off) v from rfl]; exact pSt_wp ho hr hv hl hk k
theorem wst3 {h : Hp} {o T sz kk off : Nat} {rows : List (List D)} {row : List D} {v : D} (ho : h[o]? = some (.row T sz rows)) (hr : rows[kk]? = some row) (hv : (cells1 v).length = 1) (hl : off + 1 ≤ row.length) (hk : v.okv = true) {β : Type} {f : Hp → Option β} {Q : β → Prop}
    (k : ∀ h', h'[o]? = some (.row T sz (rows.set kk (spl row off (cells1 v)))) → Same o h h' → Wp (f h') Q) : Wp ((dStore tab h ty3 (.ptr o kk off) v).bind f) Q := 
  by rw [show dStore tab h ty3 (.ptr o kk off) v = pSt 1 h (.ptr o kk off) v from rfl]; exact pSt_wp ho hr hv hl hk k
@[simp] theorem fa31_5 (c0 c1 c2 c3 c4 c5 : D) (cs : List D) : dFieldAddr tab ty31 5 (.fptr (c0 :: c1 :: c2 :: c3 :: c4 :: c5 :: cs)) = some (.fptr (c5 :: cs)) := id rfl
@[simp] theorem fap31_5 (o k f : Nat) : dFieldAddr tab ty31 5 (.ptr o k f) = some (.ptr o k (f + 5)) := id rfl
@[simp] theorem fap31_6 (o k f : Nat) : dFieldAddr tab ty31 6 (.ptr o k f) = some (.ptr o k (f + 6)) := id rfl
def lt98_38 : List (List UInt8) := [[97], [122, 122], [], [49]]
@[simp] theorem lt98_38_ok : pLitF tab ty98 4 [0, 1, 2, 3] [.str [97], .str [122, 122], .str [], .str [49]] = some (.sl 1 true (lt98_38.map fun s => [.str s])) := id rfl
@[simp] theorem bd109_0_1 (s0 : List UInt8) (s1 : List UInt8) : dBuild tab ty109 [0, 1] [.str s0, .str s1] = some (.agg [.str s0, .str s1]) := id rfl
@[simp] theorem bs29_1 (x0_0 x0_1 : D) : pLitF tab ty29 1 [0] [.agg [x0_0, x0_1]] = some (.sl 2 true [[x0_0, x0_1]]) := id rfl
def lt98_39 : List (List UInt8) := [[], [114], [97, 98, 99, 100, 101, 102, 103, 104, 105, 106, 107, 108, 109, 110, 111, 112, 113, 114, 115, 116, 117, 118, 119, 120, 121, 122, 97, 98, 99, 100, 101, 102, 103]]
@[simp] theorem lt98_39_ok : pLitF tab ty98 3 [0, 1, 2] [.str [], .str [114], .str [97, 98, 99, 100, 101, 102, 103, 104, 105, 106, 107, 108, 109, 110, 111, 112, 113, 114, 115, 116, 117, 118, 119, 120, 121, 122, 97, 98, 99, 100, 101, 102, 103]] = some (.sl 1 true (lt98_39.map fun s => [.str s])) := id rfl
@[simp] theorem fap74_0 (o k f : Nat) : dFieldAddr tab ty74 0 (.ptr o k f) = some (.ptr o k (f + 0)) := id rfl
theorem wst9 {h : Hp} {o T sz kk off : Nat} {rows : List (List D)} {row : List D} {v : D} (ho : h[o]? = some (.row T sz rows)) (hr : rows[kk]? = some row) (hv : (cells1 v).length = 1) (hl : off + 1 ≤ row.length) (hk : v.okv = true) {β : Type} {f : Hp → Option β} {Q : β → Prop}
    (k : ∀ h', h'[o]? = some (.row T sz (rows.set kk (spl row off (cells1 v)))) → Same o h h' → Wp (f h') Q) : Wp ((dStore tab h ty9 (.ptr o kk off) v).bind f) Q := 
  by rw [show dStore tab h ty9 (.ptr o kk off) v = pSt 1 h (.ptr o kk off) v from rfl]; exact pSt_wp ho hr hv hl hk k
def lt98_40 : List (List UInt8) := [[120], [97, 98, 99, 100, 101, 102, 103, 104, 105, 106, 107, 108, 109, 110, 111, 112, 113, 114, 115, 116, 117, 118, 119, 120, 121, 122, 97, 98, 99, 100, 101, 102, 103]]
@[simp] theorem lt98_40_ok : pLitF tab ty98 2 [0, 1] [.str [120], .str [97, 98, 99, 100, 101, 102, 103, 104, 105, 106, 107, 108, 109, 110, 111, 112, 113, 114, 115, 116, 117, 118, 119, 120, 121, 122, 97, 98, 99, 100, 101, 102, 103]] = some (.sl 1 true (lt98_40.map fun s => [.str s])) := id rfl
@[simp] theorem fap31_7 (o k f : Nat) : dFieldAddr tab ty31 7 (.ptr o k f) = some (.ptr o k (f + 7)) := id rfl
@[simp] theorem ldp78 (h : Hp) (o k f : Nat) : dLoad tab h ty78 (.ptr o k f) = (h.row o k).bind fun row => takeN 3 (row.drop f) := by show (match h.row o k with | some row => _ | none => none) = _; cases h.row o k <;> rfl
theorem wst78 {h : Hp} {o T sz kk off : Nat} {rows : List (List D)} {row : List D} {v : D} (ho : h[o]? = some (.row T sz rows)) (hr : rows[kk]? = some row) (hv : (cells1 v).length = 3) (hl : off + 3 ≤ row.length) (hk : v.okv = true) {β : Type} {f : Hp → Option β} {Q : β → Prop}
    (k : ∀ h', h'[o]? = some (.row T sz (rows.set kk (spl row off (cells1 v)))) → Same o h h' → Wp (f h') Q) : Wp ((dStore tab h ty78 (.ptr o kk off) v).bind f) Q := 
  by rw [show dStore tab h ty78 (.ptr o kk off) v = pSt 3 h (.ptr o kk off) v from rfl]; exact pSt_wp ho hr hv hl hk k
@[simp] theorem ld9 (c : D) (cs : List D) (h : Hp) : dLoad tab h ty9 (.fptr (c :: cs)) = some c := id rfl
@[simp] theorem ldp9 (h : Hp) (o k f : Nat) : dLoad tab h ty9 (.ptr o k f) = (h.row o k).bind fun row => (row.drop f).head? := by show (match h.row o k with | some row => _ | none => none) = _; cases h.row o k <;> rfl
@[simp] theorem len9 (s : List UInt8) : dLenT tab ty9 (.str s) = some (.int .i64 s.length) := id rfl
@[simp] theorem fap31_8 (o k f : Nat) : dFieldAddr tab ty31 8 (.ptr o k f) = some (.ptr o k (f + 8)) := id rfl
@[simp] theorem ix29 (f : Bool) (rows : List (List D)) (i : Int) : dIndexAddr tab ty29 (.sl 2 f rows) (.int .i64 i) = if 0 ≤ i then (rows[i.toNat]?).map .fptr else none := by show (if 2 = 2 ∧ 0 ≤ i then (match rows[i.toNat]? with | some row => some (D.fptr row) | none => none) else none) = _; by_cases h : 0 ≤ i <;> simp [h] <;> cases rows[i.toNat]? <;> rfl
@[simp] theorem ixm29 (o r n : Nat) (i : Int) : dIndexAddr tab ty29 (.msl 2 o r n) (.int .i64 i) = if 0 ≤ i ∧ i < n then some (.ptr o (r + i.toNat) 0) else none := by show (if 2 = 2 ∧ 0 ≤ i ∧ i < n then some (D.ptr o (r + i.toNat) 0) else none) = _; simp
@[simp] theorem ixs29 {α : Type} {f : α → List D} {l : List α} {d : D} (h : SlOf 2 f l d) (i : Int) : dIndexAddr tab ty29 d (.int .i64 i) = if 0 ≤ i then (l[i.toNat]?).map fun p => .fptr (f p) else none := 
  by rcases h with ⟨rfl, rfl⟩ | ⟨b, rfl⟩
     · show none = _; simp
     · rw [ix29]; simp [Function.comp_def]
@[simp] theorem fa109_1 (c0 c1 : D) (cs : List D) : dFieldAddr tab ty109 1 (.fptr (c0 :: c1 :: cs)) = some (.fptr (c1 :: cs)) := id rfl
@[simp] theorem fa78_2 (c0 c1 c2 : D) (cs : List D) : dFieldAddr tab ty78 2 (.fptr (c0 :: c1 :: c2 :: cs)) = some (.fptr (c2 :: cs)) := id rfl
@[simp] theorem fap78_2 (o k f : Nat) : dFieldAddr tab ty78 2 (.ptr o k f) = some (.ptr o k (f + 2)) := id rfl
@[simp] theorem bs82_4 (n0 : Int) (n1 : Int) (n2 : Int) (n3 : Int) : pLitF tab ty82 4 [0, 1, 2, 3] [.int .i64 n0, .int .i64 n1, .int .i64 n2, .int .i64 n3] = some (.sl 1 true [[.int .i64 n0], [.int .i64 n1], [.int .i64 n2], [.int .i64 n3]]) := id rfl
theorem wap98 {h : Hp} {n0 : Nat} (hn0 : n0 ≤ h.length) {rows : List (List D)} {x y : D} (hx : Own h n0 ty9 1 rows x) {ys : List (List D)} (hy : dRowsOf h 1 y = some ys) (hl : (rows.length + ys.length) * 16 ≤ 140737488355328) {β : Type} {f : D × Hp → Option β} {Q : β → Prop}
    (k : ∀ x' h', Own h' n0 ty9 1 (rows ++ ys) x' → h.length ≤ h'.length → (∀ q, q < n0 → h'[q]? = h[q]?) → (∀ q, q < h.length → ¬ x.inOb q → h'[q]? = h[q]?) → (∀ q, x'.inOb q → x.inOb q ∨ h.length ≤ q) → Wp (f (x', h')) Q) : Wp ((dAppend tab h ty98 ty98 x y).bind f) Q := 
  app_wp (T := tab) (i := ti98) (j := ti9) (id rfl) (id rfl) (id rfl) (by decide) hn0 hx hy (lim_ok hl (by omega)) k
def lt82_41 : List Int := [9223372036854775807, (-9223372036854775808), 4294967296, (-1), (-2), 65536, 999, 1000, 253402300799999, 253402300800000, 0, 41]
@[simp] theorem lt82_41_len : lt82_41.length = 12 := id rfl
@[simp] theorem lt82_41_ok : pLitF tab ty82 12 [0, 1, 2, 3, 4, 5, 6, 7, 8, 9, 10, 11] [.int .i64 9223372036854775807, .int .i64 (-9223372036854775808), .int .i64 4294967296, .int .i64 (-1), .int .i64 (-2), .int .i64 65536, .int .i64 999, .int .i64 1000, .int .i64 253402300799999, .int .i64 253402300800000, .int .i64 0, .int .i64 41] = some (.sl 1 true (lt82_41.map fun n => [.int .i64 n])) := id rfl
@[simp] theorem lens82 {α : Type} {f : α → List D} {l : List α} {d : D} (h : SlOf 1 f l d) : dLenT tab ty82 d = some (.int .i64 l.length) := 
  by rcases h with ⟨rfl, rfl⟩ | ⟨b, rfl⟩
     · rfl
     · show some (D.int .i64 ((l.map f).length : Nat)) = _; simp
@[simp] theorem ix82 (f : Bool) (rows : List (List D)) (i : Int) : dIndexAddr tab ty82 (.sl 1 f rows) (.int .i64 i) = if 0 ≤ i then (rows[i.toNat]?).map .fptr else none := by show (if 1 = 1 ∧ 0 ≤ i then (match rows[i.toNat]? with | some row => some (D.fptr row) | none => none) else none) = _; by_cases h : 0 ≤ i <;> simp [h] <;> cases rows[i.toNat]? <;> rfl
@[simp] theorem ixs82 {α : Type} {f : α → List D} {l : List α} {d : D} (h : SlOf 1 f l d) (i : Int) : dIndexAddr tab ty82 d (.int .i64 i) = if 0 ≤ i then (l[i.toNat]?).map fun p => .fptr (f p) else none := 
  by rcases h with ⟨rfl, rfl⟩ | ⟨b, rfl⟩
     · show none = _; simp
     · rw [ix82]; simp [Function.comp_def]
@[simp] theorem bd74_  : dBuild tab ty74 [] [] = some (.agg [.str [], .int .i64 0, .int .i64 0, .int .i64 0, .int .i64 0, .nils, .int .i64 0, .int .i64 0, .str [], .str [], .nils]) := id rfl
def lt82_14 : List Int := [1, 1, 2, 5040]
@[simp] theorem lt82_14_ok : pLitF tab ty82 4 [0, 1, 2, 3] [.int .i64 1, .int .i64 1, .int .i64 2, .int .i64 5040] = some (.sl 1 true (lt82_14.map fun n => [.int .i64 n])) := id rfl
def lt98_15 : List (List UInt8) := [[], [116, 49], [116, 50], [105, 100]]
@[simp] theorem lt98_15_ok : pLitF tab ty98 4 [0, 1, 2, 3] [.str [], .str [116, 49], .str [116, 50], .str [105, 100]] = some (.sl 1 true (lt98_15.map fun s => [.str s])) := id rfl
def lt98_16 : List (List UInt8) := [[109, 97, 105, 110], [97, 117, 100, 105, 116]]
@[simp] theorem lt98_16_ok : pLitF tab ty98 2 [0, 1] [.str [109, 97, 105, 110], .str [97, 117, 100, 105, 116]] = some (.sl 1 true (lt98_16.map fun s => [.str s])) := id rfl
@[simp] theorem bd31_0_1_2_5_6_7_8_9 (n0 : Int) (n1 : Int) (n2 : Int) (n3 : Int) (n4 : Int) (s5 : List UInt8) (s6 : List UInt8) (d7 : D) (h7 : d7.one = true) : dBuild tab ty31 [0, 1, 2, 5, 6, 7, 8, 9] [.int .i64 n0, .int .i64 n1, .int .i64 n2, .int .i64 n3, .int .i64 n4, .str s5, .str s6, d7] = some (.agg [.int .i64 n0, .int .i64 n1, .int .i64 n2, .int .i64 0, .nils, .int .i64 n3, .int .i64 n4, .str s5, .str s6, d7]) := by
  have c7 := one_cells h7
  refine bd_of (T := tab) (i := ti31) (fs := [(3, 0, 1), (3, 1, 1), (3, 2, 1), (3, 3, 1), (22, 4, 1), (3, 5, 1), (3, 6, 1), (9, 7, 1), (9, 8, 1), (23, 9, 1)]) (id rfl) (id rfl) ?_
  rw [show ti31.zero = [.int .i64 0, .int .i64 0, .int .i64 0, .int .i64 0, .nils, .int .i64 0, .int .i64 0, .str [], .str [], .nils] from id rfl]
  rw [fill_step (off := 0) (sz := 1) (id rfl) (id rfl) (by simp [spl, cells1_int, cells1_str, cells1_bool, cells1_agg]) (id rfl)]
  rw [fill_step (off := 1) (sz := 1) (id rfl) (id rfl) (by simp [spl, cells1_int, cells1_str, cells1_bool, cells1_agg]) (id rfl)]
  rw [fill_step (off := 2) (sz := 1) (id rfl) (id rfl) (by simp [spl, cells1_int, cells1_str, cells1_bool, cells1_agg]) (id rfl)]
  rw [fill_step (off := 5) (sz := 1) (id rfl) (id rfl) (by simp [spl, cells1_int, cells1_str, cells1_bool, cells1_agg]) (id rfl)]
  rw [fill_step (off := 6) (sz := 1) (id rfl) (id rfl) (by simp [spl, cells1_int, cells1_str, cells1_bool, cells1_agg]) (id rfl)]
  rw [fill_step (off := 7) (sz := 1) (id rfl) (id rfl) (by simp [spl, cells1_int, cells1_str, cells1_bool, cells1_agg]) (id rfl)]
  rw [fill_step (off := 8) (sz := 1) (id rfl) (id rfl) (by simp [spl, cells1_int, cells1_str, cells1_bool, cells1_agg]) (id rfl)]
  rw [fill_step (off := 9) (sz := 1) (id rfl) (by rw [c7.1]; rfl) (by simp [spl, cells1_int, cells1_str, cells1_bool, cells1_agg]) c7.2, c7.1]
  exact id rfl
@[simp] theorem fap80_1 (o k f : Nat) : dFieldAddr tab ty80 1 (.ptr o k f) = some (.ptr o k (f + 1)) := id rfl
@[simp] theorem fap80_0 (o k f : Nat) : dFieldAddr tab ty80 0 (.ptr o k f) = some (.ptr o k (f + 0)) := id rfl
@[simp] theorem ldp22 (h : Hp) (o k f : Nat) : dLoad tab h ty22 (.ptr o k f) = (h.row o k).bind fun row => (row.drop f).head? := by show (match h.row o k with | some row => _ | none => none) = _; cases h.row o k <;> rfl
@[simp] theorem ix22 (f : Bool) (rows : List (List D)) (i : Int) : dIndexAddr tab ty22 (.sl 1 f rows) (.int .i64 i) = if 0 ≤ i then (rows[i.toNat]?).map .fptr else none := by show (if 1 = 1 ∧ 0 ≤ i then (match rows[i.toNat]? with | some row => some (D.fptr row) | none => none) else none) = _; by_cases h : 0 ≤ i <;> simp [h] <;> cases rows[i.toNat]? <;> rfl
@[simp] theorem ixm22 (o r n : Nat) (i : Int) : dIndexAddr tab ty22 (.msl 1 o r n) (.int .i64 i) = if 0 ≤ i ∧ i < n then some (.ptr o (r + i.toNat) 0) else none := by show (if 1 = 1 ∧ 0 ≤ i ∧ i < n then some (D.ptr o (r + i.toNat) 0) else none) = _; simp
@[simp] theorem ld5 (c : D) (cs : List D) (h : Hp) : dLoad tab h ty5 (.fptr (c :: cs)) = some c := id rfl
@[simp] theorem ldp5 (h : Hp) (o k f : Nat) : dLoad tab h ty5 (.ptr o k f) = (h.row o k).bind fun row => (row.drop f).head? := by show (match h.row o k with | some row => _ | none => none) = _; cases h.row o k <;> rfl
@[simp] theorem cv5_3 (k : IntKind) (n : Int) : dConv tab ty5 ty3 (.int k n) = some (.int .i64 (IntKind.wrap .i64 n)) := id rfl
@[simp] theorem lens98 {α : Type} {f : α → List D} {l : List α} {d : D} (h : SlOf 1 f l d) : dLenT tab ty98 d = some (.int .i64 l.length) := 
  by rcases h with ⟨rfl, rfl⟩ | ⟨b, rfl⟩
     · rfl
     · show some (D.int .i64 ((l.map f).length : Nat)) = _; simp
@[simp] theorem len98 (z : Nat) (f : Bool) (rows : List (List D)) : dLenT tab ty98 (.sl z f rows) = some (.int .i64 rows.length) := id rfl
@[simp] theorem ix98 (f : Bool) (rows : List (List D)) (i : Int) : dIndexAddr tab ty98 (.sl 1 f rows) (.int .i64 i) = if 0 ≤ i then (rows[i.toNat]?).map .fptr else none := by show (if 1 = 1 ∧ 0 ≤ i then (match rows[i.toNat]? with | some row => some (D.fptr row) | none => none) else none) = _; by_cases h : 0 ≤ i <;> simp [h] <;> cases rows[i.toNat]? <;> rfl
@[simp] theorem ixs98 {α : Type} {f : α → List D} {l : List α} {d : D} (h : SlOf 1 f l d) (i : Int) : dIndexAddr tab ty98 d (.int .i64 i) = if 0 ≤ i then (l[i.toNat]?).map fun p => .fptr (f p) else none := 
  by rcases h with ⟨rfl, rfl⟩ | ⟨b, rfl⟩
     · show none = _; simp
     · rw [ix98]; simp [Function.comp_def]
def lt98_33 : List (List UInt8) := [[97], [98], [32], [49], [117, 115, 101, 114], [61], [34], [55], [46], [44], [120, 32, 121], [49, 48, 46, 50], [45], [195, 169], [91], [105, 100], [9], [58]]
@[simp] theorem lt98_33_ok : pLitF tab ty98 18 [0, 1, 2, 3, 4, 5, 6, 7, 8, 9, 10, 11, 12, 13, 14, 15, 16, 17] [.str [97], .str [98], .str [32], .str [49], .str [117, 115, 101, 114], .str [61], .str [34], .str [55], .str [46], .str [44], .str [120, 32, 121], .str [49, 48, 46, 50], .str [45], .str [195, 169], .str [91], .str [105, 100], .str [9], .str [58]] = some (.sl 1 true (lt98_33.map fun s => [.str s])) := id rfl
@[simp] theorem ld109 (c0 c1 : D) (cs : List D) (h : Hp) : dLoad tab h ty109 (.fptr (c0 :: c1 :: cs)) = some (.agg [c0, c1]) := id rfl
@[simp] theorem ldp109 (h : Hp) (o k f : Nat) : dLoad tab h ty109 (.ptr o k f) = (h.row o k).bind fun row => takeN 2 (row.drop f) := by show (match h.row o k with | some row => _ | none => none) = _; cases h.row o k <;> rfl
theorem wst109 {h : Hp} {o T sz kk off : Nat} {rows : List (List D)} {row : List D} {v : D} (ho : h[o]? = some (.row T sz rows)) (hr : rows[kk]? = some row) (hv : (cells1 v).length = 2) (hl : off + 2 ≤ row.length) (hk : v.okv = true) {β : Type} {f : Hp → Option β} {Q : β → Prop}
    (k : ∀ h', h'[o]? = some (.row T sz (rows.set kk (spl row off (cells1 v)))) → Same o h h' → Wp (f h') Q) : Wp ((dStore tab h ty109 (.ptr o kk off) v).bind f) Q := 
  by rw [show dStore tab h ty109 (.ptr o kk off) v = pSt 2 h (.ptr o kk off) v from rfl]; exact pSt_wp ho hr hv hl hk k
@[simp] theorem fa109_0 (c0 : D) (cs : List D) : dFieldAddr tab ty109 0 (.fptr (c0 :: cs)) = some (.fptr (c0 :: cs)) := id rfl
@[simp] theorem fap109_0 (o k f : Nat) : dFieldAddr tab ty109 0 (.ptr o k f) = some (.ptr o k (f + 0)) := id rfl
@[simp] theorem bneq109 (a0 b0 : List UInt8) (a1 b1 : List UInt8) : dBin tab .neq ty109 (.agg [.str a0, .str a1]) (.agg [.str b0, .str b1]) = some (.bool (!(a0 == b0 && (a1 == b1 && true)))) := id rfl
@[simp] theorem bneq78 (a0 b0 : Int) (a1 b1 : Int) (a2 b2 : List UInt8) : dBin tab .neq ty78 (.agg [.int .i64 a0, .int .i64 a1, .str a2]) (.agg [.int .i64 b0, .int .i64 b1, .str b2]) = some (.bool (!(a0 == b0 && (a1 == b1 && (a2 == b2 && true))))) := id rfl
@[simp] theorem bs28_0  : pLitF tab ty28 0 [] [] = some (.sl 3 true []) := id rfl
def lt98_17 : List (List UInt8) := [[97], [105, 100], [108, 101, 118, 101, 108], [117, 115, 101, 114]]
@[simp] theorem lt98_17_len : lt98_17.length = 4 := id rfl
@[simp] theorem lt98_17_ok : pLitF tab ty98 4 [0, 1, 2, 3] [.str [97], .str [105, 100], .str [108, 101, 118, 101, 108], .str [117, 115, 101, 114]] = some (.sl 1 true (lt98_17.map fun s => [.str s])) := id rfl
def lt98_18 : List (List UInt8) := [[], [49], [105, 110, 102, 111], [119, 97, 114, 110], [97, 110, 110], [50, 46, 53, 48], [116, 114, 117, 101], [116, 49]]
@[simp] theorem lt98_18_ok : pLitF tab ty98 8 [0, 1, 2, 3, 4, 5, 6, 7] [.str [], .str [49], .str [105, 110, 102, 111], .str [119, 97, 114, 110], .str [97, 110, 110], .str [50, 46, 53, 48], .str [116, 114, 117, 101], .str [116, 49]] = some (.sl 1 true (lt98_18.map fun s => [.str s])) := id rfl
@[simp] theorem bs29_0  : pLitF tab ty29 0 [] [] = some (.sl 2 true []) := id rfl
def lt98_19 : List (List UInt8) := [[49], [50], [57]]
@[simp] theorem lt98_19_ok : pLitF tab ty98 3 [0, 1, 2] [.str [49], .str [50], .str [57]] = some (.sl 1 true (lt98_19.map fun s => [.str s])) := id rfl
def lt98_20 : List (List UInt8) := [[48], [53]]
@[simp] theorem lt98_20_ok : pLitF tab ty98 2 [0, 1] [.str [48], .str [53]] = some (.sl 1 true (lt98_20.map fun s => [.str s])) := id rfl
def lt98_21 : List (List UInt8) := [[49], [50]]
@[simp] theorem lt98_21_ok : pLitF tab ty98 2 [0, 1] [.str [49], .str [50]] = some (.sl 1 true (lt98_21.map fun s => [.str s])) := id rfl
def lt98_22 : List (List UInt8) := [[105, 110, 102, 111], [119, 97, 114, 110]]
@[simp] theorem lt98_22_ok : pLitF tab ty98 2 [0, 1] [.str [105, 110, 102, 111], .str [119, 97, 114, 110]] = some (.sl 1 true (lt98_22.map fun s => [.str s])) := id rfl
def lt98_23 : List (List UInt8) := [[55], [116, 49], [116, 50]]
@[simp] theorem lt98_23_ok : pLitF tab ty98 3 [0, 1, 2] [.str [55], .str [116, 49], .str [116, 50]] = some (.sl 1 true (lt98_23.map fun s => [.str s])) := id rfl
def lt98_24 : List (List UInt8) := [[105, 110, 102, 111], [119, 97, 114, 110], [100, 101, 98, 117, 103]]
@[simp] theorem lt98_24_ok : pLitF tab ty98 3 [0, 1, 2] [.str [105, 110, 102, 111], .str [119, 97, 114, 110], .str [100, 101, 98, 117, 103]] = some (.sl 1 true (lt98_24.map fun s => [.str s])) := id rfl
def lt98_25 : List (List UInt8) := [[97, 110, 110], [98, 111, 98]]
@[simp] theorem lt98_25_ok : pLitF tab ty98 2 [0, 1] [.str [97, 110, 110], .str [98, 111, 98]] = some (.sl 1 true (lt98_25.map fun s => [.str s])) := id rfl
def lt98_26 : List (List UInt8) := [[49, 48, 46, 50], [49, 48, 46, 51], [55, 46, 55]]
@[simp] theorem lt98_26_ok : pLitF tab ty98 3 [0, 1, 2] [.str [49, 48, 46, 50], .str [49, 48, 46, 51], .str [55, 46, 55]] = some (.sl 1 true (lt98_26.map fun s => [.str s])) := id rfl
def lt98_27 : List (List UInt8) := [[102], [103]]
@[simp] theorem lt98_27_ok : pLitF tab ty98 2 [0, 1] [.str [102], .str [103]] = some (.sl 1 true (lt98_27.map fun s => [.str s])) := id rfl
def lt98_28 : List (List UInt8) := [[40, 49, 41], [40, 50, 50, 41]]
@[simp] theorem lt98_28_ok : pLitF tab ty98 2 [0, 1] [.str [40, 49, 41], .str [40, 50, 50, 41]] = some (.sl 1 true (lt98_28.map fun s => [.str s])) := id rfl
def lt98_29 : List (List UInt8) := [[97, 110, 110], [98, 111, 98], [101, 118, 101]]
@[simp] theorem lt98_29_ok : pLitF tab ty98 3 [0, 1, 2] [.str [97, 110, 110], .str [98, 111, 98], .str [101, 118, 101]] = some (.sl 1 true (lt98_29.map fun s => [.str s])) := id rfl
def lt98_30 : List (List UInt8) := [[105, 110], [111, 117, 116]]
@[simp] theorem lt98_30_ok : pLitF tab ty98 2 [0, 1] [.str [105, 110], .str [111, 117, 116]] = some (.sl 1 true (lt98_30.map fun s => [.str s])) := id rfl
def lt98_31 : List (List UInt8) := [[49], [45, 50, 48], [116, 114, 117, 101]]
@[simp] theorem lt98_31_ok : pLitF tab ty98 3 [0, 1, 2] [.str [49], .str [45, 50, 48], .str [116, 114, 117, 101]] = some (.sl 1 true (lt98_31.map fun s => [.str s])) := id rfl
def lt98_32 : List (List UInt8) := [[111, 107], [102, 97, 105, 108, 101, 100]]
@[simp] theorem lt98_32_ok : pLitF tab ty98 2 [0, 1] [.str [111, 107], .str [102, 97, 105, 108, 101, 100]] = some (.sl 1 true (lt98_32.map fun s => [.str s])) := id rfl
@[simp] theorem cv3_134 (k : IntKind) (n : Int) : dConv tab ty3 ty134 (.int k n) = some (.int .u64 (IntKind.wrap .u64 n)) := id rfl
@[simp] theorem cv134_3 (k : IntKind) (n : Int) : dConv tab ty134 ty3 (.int k n) = some (.int .i64 (IntKind.wrap .i64 n)) := id rfl
end Go.Proofs.YtlpedofpnbggbaaDoor
