/- Operations at the types of this seat. -/
import Derived.Test.YthaajlepgblimaaDoorC2
import Derived.Test.YthaajlepgblimaaDoorPiZ
set_option linter.unusedSimpArgs false
set_option linter.unusedVariables false
set_option linter.unnecessarySimpa false
set_option maxRecDepth 20000
set_option maxHeartbeats 2000000
namespace Go.Proofs.YthaajlepgblimaaDoor
open Go.Eng Go.Pi
@[simp] theorem ldp1064 (h : Hp) (o k f : Nat) : dLoad tab h ty1064 (.ptr o k f) = (h.row o k).bind fun row => takeN 3 (row.drop f) := by show (match h.row o k with | some row => _ | none => none) = _; cases h.row o k <;> rfl
theorem wst1009 {h : Hp} {o T sz kk off : Nat} {rows : List (List D)} {row : List D} {v : D} (ho : h[o]? = some (.row T sz rows)) (hr : rows[kk]? = some row) (hv : (cells1 v).length = 2) (hl : off + 2 ≤ row.length) (hk : v.okv = true) {β : Type} {f : Hp → Option β} {Q : β → Prop}
  (k : ∀ h', h'[o]? = some (.row T sz (rows.set kk (spl row off (cells1 v)))) → Same o h h' → Wp (f h') Q) : Wp ((dStore tab h ty1009 (.ptr o kk off) v).bind f) Q := 
 by rw [show dStore tab h ty1009 (.ptr o kk off) v = pSt 2 h (.ptr o kk off) v from rfl]; exact pSt_wp ho hr hv hl hk k
@[simp] theorem bs1059_1 (x0_0 x0_1 x0_2 : D) : pLitF tab ty1059 1 [0] [.agg [x0_0, x0_1, x0_2]] = some (.sl 3 true [[x0_0, x0_1, x0_2]]) := id rfl
theorem wap1059 {h : Hp} {n0 : Nat} (hn0 : n0 ≤ h.length) {rows : List (List D)} {x y : D} (hx : Own h n0 ty1064 3 rows x) {ys : List (List D)} (hy : dRowsOf h 3 y = some ys) (hl : (rows.length + ys.length) * 40 ≤ 140737488355328) {β : Type} {f : D × Hp → Option β} {Q : β → Prop}
  (k : ∀ x' h', Own h' n0 ty1064 3 (rows ++ ys) x' → h.length ≤ h'.length → (∀ q, q < n0 → h'[q]? = h[q]?) → (∀ q, q < h.length → ¬ x.inOb q → h'[q]? = h[q]?) → (∀ q, x'.inOb q → x.inOb q ∨ h.length ≤ q) → Wp (f (x', h')) Q) : Wp ((dAppend tab h ty1059 ty1059 x y).bind f) Q := 
 app_wp (T := tab) (i := ti1059) (j := ti1064) (id rfl) (id rfl) (id rfl) (by decide) hn0 hx hy (lim_ok hl (by omega)) k
@[simp] theorem lens1059 {α : Type} {f : α → List D} {l : List α} {d : D} (h : SlOf 3 f l d) : dLenT tab ty1059 d = some (.int .i64 l.length) := 
 by rcases h with ⟨rfl, rfl⟩ | ⟨b, rfl⟩
    ·rfl
    ·show some (D.int .i64 ((l.map f).length : Nat)) = _; simp
theorem leno1059 {h : Hp} {n0 e z : Nat} {rows : List (List D)} {d : D} (hd : Own h n0 e z rows d) : dLenT tab ty1059 d = some (.int .i64 rows.length) := by
 rcases hd with ⟨rfl, rfl⟩ | ⟨o, _, rfl, _⟩ <;> rfl
@[simp] theorem ldp1009 (h : Hp) (o k f : Nat) : dLoad tab h ty1009 (.ptr o k f) = (h.row o k).bind fun row => takeN 2 (row.drop f) := by show (match h.row o k with | some row => _ | none => none) = _; cases h.row o k <;> rfl
@[simp] theorem ix1059 (f : Bool) (rows : List (List D)) (i : Int) : dIndexAddr tab ty1059 (.sl 3 f rows) (.int .i64 i) = if 0 ≤ i then (rows[i.toNat]?).map .fptr else none := by show (if 3 = 3 ∧ 0 ≤ i then (match rows[i.toNat]? with | some row => some (D.fptr row) | none => none) else none) = _; by_cases h : 0 ≤ i <;> simp [h] <;> cases rows[i.toNat]? <;> rfl
@[simp] theorem ixm1059 (o r n : Nat) (i : Int) : dIndexAddr tab ty1059 (.msl 3 o r n) (.int .i64 i) = if 0 ≤ i ∧ i < n then some (.ptr o (r + i.toNat) 0) else none := by show (if 3 = 3 ∧ 0 ≤ i ∧ i < n then some (D.ptr o (r + i.toNat) 0) else none) = _; simp
@[simp] theorem ixs1059 {α : Type} {f : α → List D} {l : List α} {d : D} (h : SlOf 3 f l d) (i : Int) : dIndexAddr tab ty1059 d (.int .i64 i) = if 0 ≤ i then (l[i.toNat]?).map fun p => .fptr (f p) else none := 
 by rcases h with ⟨rfl, rfl⟩ | ⟨b, rfl⟩
    ·show none = _; simp
    ·rw [ix1059]; simp [Function.comp_def]
@[simp] theorem bd1006_0_1_2 (n0 : Int) (n1 : Int) (n2 : Int) : dBuild tab ty1006 [0, 1, 2] [.int .i64 n0, .int .i64 n1, .int .i64 n2] = some (.agg [.int .i64 n0, .int .i64 n1, .int .i64 n2]) := id rfl
@[simp] theorem bs1007_1 (x0_0 x0_1 x0_2 : D) : pLitF tab ty1007 1 [0] [.agg [x0_0, x0_1, x0_2]] = some (.sl 3 true [[x0_0, x0_1, x0_2]]) := id rfl
@[simp] theorem bd1009_0 (d0 : D) (h0 : d0.one = true) : dBuild tab ty1009 [0] [d0] = some (.agg [d0, .nils]) := by
 have c0 := one_cells h0
 refine bd_of (T := tab) (i := ti1009) (fs := [(45, 0, 1), (46, 1, 1)]) (id rfl) (id rfl) ?_
 rw [show ti1009.zero = [.nils, .nils] from id rfl]
 rw [fill_step (off := 0) (sz := 1) (id rfl) (by rw [c0.1]; rfl) (by simp [spl, cells1_int, cells1_str, cells1_bool, cells1_agg]) c0.2, c0.1]
 exact id rfl
@[simp] theorem fap1064_2 (o k f : Nat) : dFieldAddr tab ty1064 2 (.ptr o k f) = some (.ptr o k (f + 2)) := id rfl
@[simp] theorem ld113 (c : D) (cs : List D) (h : Hp) : dLoad tab h ty113 (.fptr (c :: cs)) = some c := id rfl
@[simp] theorem ldp113 (h : Hp) (o k f : Nat) : dLoad tab h ty113 (.ptr o k f) = (h.row o k).bind fun row => (row.drop f).head? := by show (match h.row o k with | some row => _ | none => none) = _; cases h.row o k <;> rfl
@[simp] theorem lens113 {α : Type} {f : α → List D} {l : List α} {d : D} (h : SlOf 11 f l d) : dLenT tab ty113 d = some (.int .i64 l.length) := 
 by rcases h with ⟨rfl, rfl⟩ | ⟨b, rfl⟩
    ·rfl
    ·show some (D.int .i64 ((l.map f).length : Nat)) = _; simp
theorem leno113 {h : Hp} {n0 e z : Nat} {rows : List (List D)} {d : D} (hd : Own h n0 e z rows d) : dLenT tab ty113 d = some (.int .i64 rows.length) := by
 rcases hd with ⟨rfl, rfl⟩ | ⟨o, _, rfl, _⟩ <;> rfl
@[simp] theorem ix113 (f : Bool) (rows : List (List D)) (i : Int) : dIndexAddr tab ty113 (.sl 11 f rows) (.int .i64 i) = if 0 ≤ i then (rows[i.toNat]?).map .fptr else none := by show (if 11 = 11 ∧ 0 ≤ i then (match rows[i.toNat]? with | some row => some (D.fptr row) | none => none) else none) = _; by_cases h : 0 ≤ i <;> simp [h] <;> cases rows[i.toNat]? <;> rfl
@[simp] theorem ixm113 (o r n : Nat) (i : Int) : dIndexAddr tab ty113 (.msl 11 o r n) (.int .i64 i) = if 0 ≤ i ∧ i < n then some (.ptr o (r + i.toNat) 0) else none := by show (if 11 = 11 ∧ 0 ≤ i ∧ i < n then some (D.ptr o (r + i.toNat) 0) else none) = _; simp
@[simp] theorem ixs113 {α : Type} {f : α → List D} {l : List α} {d : D} (h : SlOf 11 f l d) (i : Int) : dIndexAddr tab ty113 d (.int .i64 i) = if 0 ≤ i then (l[i.toNat]?).map fun p => .fptr (f p) else none := 
 by rcases h with ⟨rfl, rfl⟩ | ⟨b, rfl⟩
    ·show none = _; simp
    ·rw [ix113]; simp [Function.comp_def]
@[simp] theorem fa74_1 (c0 c1 : D) (cs : List D) : dFieldAddr tab ty74 1 (.fptr (c0 :: c1 :: cs)) = some (.fptr (c1 :: cs)) := id rfl
@[simp] theorem fap74_1 (o k f : Nat) : dFieldAddr tab ty74 1 (.ptr o k f) = some (.ptr o k (f + 1)) := id rfl
@[simp] theorem fa31_4 (c0 c1 c2 c3 c4 : D) (cs : List D) : dFieldAddr tab ty31 4 (.fptr (c0 :: c1 :: c2 :: c3 :: c4 :: cs)) = some (.fptr (c4 :: cs)) := id rfl
@[simp] theorem fap31_4 (o k f : Nat) : dFieldAddr tab ty31 4 (.ptr o k f) = some (.ptr o k (f + 4)) := id rfl
@[simp] theorem ld28 (c : D) (cs : List D) (h : Hp) : dLoad tab h ty28 (.fptr (c :: cs)) = some c := id rfl
@[simp] theorem ldp28 (h : Hp) (o k f : Nat) : dLoad tab h ty28 (.ptr o k f) = (h.row o k).bind fun row => (row.drop f).head? := by show (match h.row o k with | some row => _ | none => none) = _; cases h.row o k <;> rfl
@[simp] theorem lens28 {α : Type} {f : α → List D} {l : List α} {d : D} (h : SlOf 3 f l d) : dLenT tab ty28 d = some (.int .i64 l.length) := 
 by rcases h with ⟨rfl, rfl⟩ | ⟨b, rfl⟩
    ·rfl
    ·show some (D.int .i64 ((l.map f).length : Nat)) = _; simp
theorem leno28 {h : Hp} {n0 e z : Nat} {rows : List (List D)} {d : D} (hd : Own h n0 e z rows d) : dLenT tab ty28 d = some (.int .i64 rows.length) := by
 rcases hd with ⟨rfl, rfl⟩ | ⟨o, _, rfl, _⟩ <;> rfl
@[simp] theorem lenm28 (z o r n : Nat) : dLenT tab ty28 (.msl z o r n) = some (.int .i64 n) := id rfl
@[simp] theorem fap31_9 (o k f : Nat) : dFieldAddr tab ty31 9 (.ptr o k f) = some (.ptr o k (f + 9)) := id rfl
@[simp] theorem ld29 (c : D) (cs : List D) (h : Hp) : dLoad tab h ty29 (.fptr (c :: cs)) = some c := id rfl
@[simp] theorem ldp29 (h : Hp) (o k f : Nat) : dLoad tab h ty29 (.ptr o k f) = (h.row o k).bind fun row => (row.drop f).head? := by show (match h.row o k with | some row => _ | none => none) = _; cases h.row o k <;> rfl
@[simp] theorem lens29 {α : Type} {f : α → List D} {l : List α} {d : D} (h : SlOf 2 f l d) : dLenT tab ty29 d = some (.int .i64 l.length) := 
 by rcases h with ⟨rfl, rfl⟩ | ⟨b, rfl⟩
    ·rfl
    ·show some (D.int .i64 ((l.map f).length : Nat)) = _; simp
theorem leno29 {h : Hp} {n0 e z : Nat} {rows : List (List D)} {d : D} (hd : Own h n0 e z rows d) : dLenT tab ty29 d = some (.int .i64 rows.length) := by
 rcases hd with ⟨rfl, rfl⟩ | ⟨o, _, rfl, _⟩ <;> rfl
@[simp] theorem lenm29 (z o r n : Nat) : dLenT tab ty29 (.msl z o r n) = some (.int .i64 n) := id rfl
@[simp] theorem len22 (z : Nat) (f : Bool) (rows : List (List D)) : dLenT tab ty22 (.sl z f rows) = some (.int .i64 rows.length) := id rfl
@[simp] theorem lenm22 (z o r n : Nat) : dLenT tab ty22 (.msl z o r n) = some (.int .i64 n) := id rfl
@[simp] theorem bd101_0 (d0 : D) (h0 : d0.one = true) : dBuild tab ty101 [0] [d0] = some (.agg [d0, .int .i64 0]) := by
 have c0 := one_cells h0
 refine bd_of (T := tab) (i := ti101) (fs := [(25, 0, 1), (3, 1, 1)]) (id rfl) (id rfl) ?_
 rw [show ti101.zero = [.nils, .int .i64 0] from id rfl]
 rw [fill_step (off := 0) (sz := 1) (id rfl) (by rw [c0.1]; rfl) (by simp [spl, cells1_int, cells1_str, cells1_bool, cells1_agg]) c0.2, c0.1]
 exact id rfl
@[simp] theorem lens111 {α : Type} {f : α → List D} {l : List α} {d : D} (h : SlOf 1 f l d) : dLenT tab ty111 d = some (.int .i64 l.length) := 
 by rcases h with ⟨rfl, rfl⟩ | ⟨b, rfl⟩
    ·rfl
    ·show some (D.int .i64 ((l.map f).length : Nat)) = _; simp
@[simp] theorem bd1064_0_1 (n0 : Int) (n1 : Int) : dBuild tab ty1064 [0, 1] [.int .i64 n0, .int .i64 n1] = some (.agg [.int .i64 n0, .int .i64 n1, .nils]) := id rfl
theorem wst1064 {h : Hp} {o T sz kk off : Nat} {rows : List (List D)} {row : List D} {v : D} (ho : h[o]? = some (.row T sz rows)) (hr : rows[kk]? = some row) (hv : (cells1 v).length = 3) (hl : off + 3 ≤ row.length) (hk : v.okv = true) {β : Type} {f : Hp → Option β} {Q : β → Prop}
  (k : ∀ h', h'[o]? = some (.row T sz (rows.set kk (spl row off (cells1 v)))) → Same o h h' → Wp (f h') Q) : Wp ((dStore tab h ty1064 (.ptr o kk off) v).bind f) Q := 
 by rw [show dStore tab h ty1064 (.ptr o kk off) v = pSt 3 h (.ptr o kk off) v from rfl]; exact pSt_wp ho hr hv hl hk k
@[simp] theorem ix82 (f : Bool) (rows : List (List D)) (i : Int) : dIndexAddr tab ty82 (.sl 1 f rows) (.int .i64 i) = if 0 ≤ i then (rows[i.toNat]?).map .fptr else none := by show (if 1 = 1 ∧ 0 ≤ i then (match rows[i.toNat]? with | some row => some (D.fptr row) | none => none) else none) = _; by_cases h : 0 ≤ i <;> simp [h] <;> cases rows[i.toNat]? <;> rfl
@[simp] theorem ixm82 (o r n : Nat) (i : Int) : dIndexAddr tab ty82 (.msl 1 o r n) (.int .i64 i) = if 0 ≤ i ∧ i < n then some (.ptr o (r + i.toNat) 0) else none := by show (if 1 = 1 ∧ 0 ≤ i ∧ i < n then some (D.ptr o (r + i.toNat) 0) else none) = _; simp
@[simp] theorem ixs82 {α : Type} {f : α → List D} {l : List α} {d : D} (h : SlOf 1 f l d) (i : Int) : dIndexAddr tab ty82 d (.int .i64 i) = if 0 ≤ i then (l[i.toNat]?).map fun p => .fptr (f p) else none := 
 by rcases h with ⟨rfl, rfl⟩ | ⟨b, rfl⟩
    ·show none = _; simp
    ·rw [ix82]; simp [Function.comp_def]
@[simp] theorem ld3 (c : D) (cs : List D) (h : Hp) : dLoad tab h ty3 (.fptr (c :: cs)) = some c := id rfl
@[simp] theorem ldp3 (h : Hp) (o k f : Nat) : dLoad tab h ty3 (.ptr o k f) = (h.row o k).bind fun row => (row.drop f).head? := by show (match h.row o k with | some row => _ | none => none) = _; cases h.row o k <;> rfl
@[simp] theorem ix111 (f : Bool) (rows : List (List D)) (i : Int) : dIndexAddr tab ty111 (.sl 1 f rows) (.int .i64 i) = if 0 ≤ i then (rows[i.toNat]?).map .fptr else none := by show (if 1 = 1 ∧ 0 ≤ i then (match rows[i.toNat]? with | some row => some (D.fptr row) | none => none) else none) = _; by_cases h : 0 ≤ i <;> simp [h] <;> cases rows[i.toNat]? <;> rfl
@[simp] theorem ixs111 {α : Type} {f : α → List D} {l : List α} {d : D} (h : SlOf 1 f l d) (i : Int) : dIndexAddr tab ty111 d (.int .i64 i) = if 0 ≤ i then (l[i.toNat]?).map fun p => .fptr (f p) else none := 
 by rcases h with ⟨rfl, rfl⟩ | ⟨b, rfl⟩
    ·show none = _; simp
    ·rw [ix111]; simp [Function.comp_def]
@[simp] theorem ldp74 (h : Hp) (o k f : Nat) : dLoad tab h ty74 (.ptr o k f) = (h.row o k).bind fun row => takeN 11 (row.drop f) := by show (match h.row o k with | some row => _ | none => none) = _; cases h.row o k <;> rfl
theorem wst74 {h : Hp} {o T sz kk off : Nat} {rows : List (List D)} {row : List D} {v : D} (ho : h[o]? = some (.row T sz rows)) (hr : rows[kk]? = some row) (hv : (cells1 v).length = 11) (hl : off + 11 ≤ row.length) (hk : v.okv = true) {β : Type} {f : Hp → Option β} {Q : β → Prop}
  (k : ∀ h', h'[o]? = some (.row T sz (rows.set kk (spl row off (cells1 v)))) → Same o h h' → Wp (f h') Q) : Wp ((dStore tab h ty74 (.ptr o kk off) v).bind f) Q := 
 by rw [show dStore tab h ty74 (.ptr o kk off) v = pSt 11 h (.ptr o kk off) v from rfl]; exact pSt_wp ho hr hv hl hk k
theorem wap113 {h : Hp} {n0 : Nat} (hn0 : n0 ≤ h.length) {rows : List (List D)} {x y : D} (hx : Own h n0 ty74 11 rows x) {ys : List (List D)} (hy : dRowsOf h 11 y = some ys) (hl : (rows.length + ys.length) * 144 ≤ 140737488355328) {β : Type} {f : D × Hp → Option β} {Q : β → Prop}
  (k : ∀ x' h', Own h' n0 ty74 11 (rows ++ ys) x' → h.length ≤ h'.length → (∀ q, q < n0 → h'[q]? = h[q]?) → (∀ q, q < h.length → ¬ x.inOb q → h'[q]? = h[q]?) → (∀ q, x'.inOb q → x.inOb q ∨ h.length ≤ q) → Wp (f (x', h')) Q) : Wp ((dAppend tab h ty113 ty113 x y).bind f) Q := 
 app_wp (T := tab) (i := ti113) (j := ti74) (id rfl) (id rfl) (id rfl) (by decide) hn0 hx hy (lim_ok hl (by omega)) k
theorem wst113 {h : Hp} {o T sz kk off : Nat} {rows : List (List D)} {row : List D} {v : D} (ho : h[o]? = some (.row T sz rows)) (hr : rows[kk]? = some row) (hv : (cells1 v).length = 1) (hl : off + 1 ≤ row.length) (hk : v.okv = true) {β : Type} {f : Hp → Option β} {Q : β → Prop}
  (k : ∀ h', h'[o]? = some (.row T sz (rows.set kk (spl row off (cells1 v)))) → Same o h h' → Wp (f h') Q) : Wp ((dStore tab h ty113 (.ptr o kk off) v).bind f) Q := 
 by rw [show dStore tab h ty113 (.ptr o kk off) v = pSt 1 h (.ptr o kk off) v from rfl]; exact pSt_wp ho hr hv hl hk k
theorem wst3 {h : Hp} {o T sz kk off : Nat} {rows : List (List D)} {row : List D} {v : D} (ho : h[o]? = some (.row T sz rows)) (hr : rows[kk]? = some row) (hv : (cells1 v).length = 1) (hl : off + 1 ≤ row.length) (hk : v.okv = true) {β : Type} {f : Hp → Option β} {Q : β → Prop}
  (k : ∀ h', h'[o]? = some (.row T sz (rows.set kk (spl row off (cells1 v)))) → Same o h h' → Wp (f h') Q) : Wp ((dStore tab h ty3 (.ptr o kk off) v).bind f) Q := 
 by rw [show dStore tab h ty3 (.ptr o kk off) v = pSt 1 h (.ptr o kk off) v from rfl]; exact pSt_wp ho hr hv hl hk k
@[simp] theorem fap101_0 (o k f : Nat) : dFieldAddr tab ty101 0 (.ptr o k f) = some (.ptr o k (f + 0)) := id rfl
@[simp] theorem ldp22 (h : Hp) (o k f : Nat) : dLoad tab h ty22 (.ptr o k f) = (h.row o k).bind fun row => (row.drop f).head? := by show (match h.row o k with | some row => _ | none => none) = _; cases h.row o k <;> rfl
@[simp] theorem fap101_1 (o k f : Nat) : dFieldAddr tab ty101 1 (.ptr o k f) = some (.ptr o k (f + 1)) := id rfl
@[simp] theorem ix22 (f : Bool) (rows : List (List D)) (i : Int) : dIndexAddr tab ty22 (.sl 1 f rows) (.int .i64 i) = if 0 ≤ i then (rows[i.toNat]?).map .fptr else none := by show (if 1 = 1 ∧ 0 ≤ i then (match rows[i.toNat]? with | some row => some (D.fptr row) | none => none) else none) = _; by_cases h : 0 ≤ i <;> simp [h] <;> cases rows[i.toNat]? <;> rfl
@[simp] theorem ixm22 (o r n : Nat) (i : Int) : dIndexAddr tab ty22 (.msl 1 o r n) (.int .i64 i) = if 0 ≤ i ∧ i < n then some (.ptr o (r + i.toNat) 0) else none := by show (if 1 = 1 ∧ 0 ≤ i ∧ i < n then some (D.ptr o (r + i.toNat) 0) else none) = _; simp
@[simp] theorem ld5 (c : D) (cs : List D) (h : Hp) : dLoad tab h ty5 (.fptr (c :: cs)) = some c := id rfl
@[simp] theorem ldp5 (h : Hp) (o k f : Nat) : dLoad tab h ty5 (.ptr o k f) = (h.row o k).bind fun row => (row.drop f).head? := by show (match h.row o k with | some row => _ | none => none) = _; cases h.row o k <;> rfl
@[simp] theorem cv5_3 (k : IntKind) (n : Int) : dConv tab ty5 ty3 (.int k n) = some (.int .i64 (IntKind.wrap .i64 n)) := id rfl
@[simp] theorem fa31_0 (c0 : D) (cs : List D) : dFieldAddr tab ty31 0 (.fptr (c0 :: cs)) = some (.fptr (c0 :: cs)) := id rfl
@[simp] theorem fap31_0 (o k f : Nat) : dFieldAddr tab ty31 0 (.ptr o k f) = some (.ptr o k (f + 0)) := id rfl
@[simp] theorem fap74_0 (o k f : Nat) : dFieldAddr tab ty74 0 (.ptr o k f) = some (.ptr o k (f + 0)) := id rfl
@[simp] theorem ld9 (c : D) (cs : List D) (h : Hp) : dLoad tab h ty9 (.fptr (c :: cs)) = some c := id rfl
@[simp] theorem ldp9 (h : Hp) (o k f : Nat) : dLoad tab h ty9 (.ptr o k f) = (h.row o k).bind fun row => (row.drop f).head? := by show (match h.row o k with | some row => _ | none => none) = _; cases h.row o k <;> rfl
@[simp] theorem bd31_0_1_2 (n0 : Int) (n1 : Int) (n2 : Int) : dBuild tab ty31 [0, 1, 2] [.int .i64 n0, .int .i64 n1, .int .i64 n2] = some (.agg [.int .i64 n0, .int .i64 n1, .int .i64 n2, .int .i64 0, .nils, .int .i64 0, .int .i64 0, .str [], .str [], .nils]) := id rfl
theorem wst31 {h : Hp} {o T sz kk off : Nat} {rows : List (List D)} {row : List D} {v : D} (ho : h[o]? = some (.row T sz rows)) (hr : rows[kk]? = some row) (hv : (cells1 v).length = 10) (hl : off + 10 ≤ row.length) (hk : v.okv = true) {β : Type} {f : Hp → Option β} {Q : β → Prop}
  (k : ∀ h', h'[o]? = some (.row T sz (rows.set kk (spl row off (cells1 v)))) → Same o h h' → Wp (f h') Q) : Wp ((dStore tab h ty31 (.ptr o kk off) v).bind f) Q := 
 by rw [show dStore tab h ty31 (.ptr o kk off) v = pSt 10 h (.ptr o kk off) v from rfl]; exact pSt_wp ho hr hv hl hk k
@[simp] theorem len9 (s : List UInt8) : dLenT tab ty9 (.str s) = some (.int .i64 s.length) := id rfl
@[simp] theorem bd78_0_1_2 (n0 : Int) (n1 : Int) (s2 : List UInt8) : dBuild tab ty78 [0, 1, 2] [.int .i64 n0, .int .i64 n1, .str s2] = some (.agg [.int .i64 n0, .int .i64 n1, .str s2]) := id rfl
@[simp] theorem bs28_1 (x0_0 x0_1 x0_2 : D) : pLitF tab ty28 1 [0] [.agg [x0_0, x0_1, x0_2]] = some (.sl 3 true [[x0_0, x0_1, x0_2]]) := id rfl
theorem wap28 {h : Hp} {n0 : Nat} (hn0 : n0 ≤ h.length) {rows : List (List D)} {x y : D} (hx : Own h n0 ty78 3 rows x) {ys : List (List D)} (hy : dRowsOf h 3 y = some ys) (hl : (rows.length + ys.length) * 32 ≤ 140737488355328) {β : Type} {f : D × Hp → Option β} {Q : β → Prop}
  (k : ∀ x' h', Own h' n0 ty78 3 (rows ++ ys) x' → h.length ≤ h'.length → (∀ q, q < n0 → h'[q]? = h[q]?) → (∀ q, q < h.length → ¬ x.inOb q → h'[q]? = h[q]?) → (∀ q, x'.inOb q → x.inOb q ∨ h.length ≤ q) → Wp (f (x', h')) Q) : Wp ((dAppend tab h ty28 ty28 x y).bind f) Q := 
 app_wp (T := tab) (i := ti28) (j := ti78) (id rfl) (id rfl) (id rfl) (by decide) hn0 hx hy (lim_ok hl (by omega)) k
theorem wst28 {h : Hp} {o T sz kk off : Nat} {rows : List (List D)} {row : List D} {v : D} (ho : h[o]? = some (.row T sz rows)) (hr : rows[kk]? = some row) (hv : (cells1 v).length = 1) (hl : off + 1 ≤ row.length) (hk : v.okv = true) {β : Type} {f : Hp → Option β} {Q : β → Prop}
  (k : ∀ h', h'[o]? = some (.row T sz (rows.set kk (spl row off (cells1 v)))) → Same o h h' → Wp (f h') Q) : Wp ((dStore tab h ty28 (.ptr o kk off) v).bind f) Q := 
 by rw [show dStore tab h ty28 (.ptr o kk off) v = pSt 1 h (.ptr o kk off) v from rfl]; exact pSt_wp ho hr hv hl hk k
@[simp] theorem fa31_3 (c0 c1 c2 c3 : D) (cs : List D) : dFieldAddr tab ty31 3 (.fptr (c0 :: c1 :: c2 :: c3 :: cs)) = some (.fptr (c3 :: cs)) := id rfl
@[simp] theorem fap31_3 (o k f : Nat) : dFieldAddr tab ty31 3 (.ptr o k f) = some (.ptr o k (f + 3)) := id rfl
@[simp] theorem ix28 (f : Bool) (rows : List (List D)) (i : Int) : dIndexAddr tab ty28 (.sl 3 f rows) (.int .i64 i) = if 0 ≤ i then (rows[i.toNat]?).map .fptr else none := by show (if 3 = 3 ∧ 0 ≤ i then (match rows[i.toNat]? with | some row => some (D.fptr row) | none => none) else none) = _; by_cases h : 0 ≤ i <;> simp [h] <;> cases rows[i.toNat]? <;> rfl
@[simp] theorem ixm28 (o r n : Nat) (i : Int) : dIndexAddr tab ty28 (.msl 3 o r n) (.int .i64 i) = if 0 ≤ i ∧ i < n then some (.ptr o (r + i.toNat) 0) else none := by show (if 3 = 3 ∧ 0 ≤ i ∧ i < n then some (D.ptr o (r + i.toNat) 0) else none) = _; simp
@[simp] theorem ixs28 {α : Type} {f : α → List D} {l : List α} {d : D} (h : SlOf 3 f l d) (i : Int) : dIndexAddr tab ty28 d (.int .i64 i) = if 0 ≤ i then (l[i.toNat]?).map fun p => .fptr (f p) else none := 
 by rcases h with ⟨rfl, rfl⟩ | ⟨b, rfl⟩
    ·show none = _; simp
    ·rw [ix28]; simp [Function.comp_def]
@[simp] theorem fa78_2 (c0 c1 c2 : D) (cs : List D) : dFieldAddr tab ty78 2 (.fptr (c0 :: c1 :: c2 :: cs)) = some (.fptr (c2 :: cs)) := id rfl
@[simp] theorem fap78_2 (o k f : Nat) : dFieldAddr tab ty78 2 (.ptr o k f) = some (.ptr o k (f + 2)) := id rfl
theorem wst9 {h : Hp} {o T sz kk off : Nat} {rows : List (List D)} {row : List D} {v : D} (ho : h[o]? = some (.row T sz rows)) (hr : rows[kk]? = some row) (hv : (cells1 v).length = 1) (hl : off + 1 ≤ row.length) (hk : v.okv = true) {β : Type} {f : Hp → Option β} {Q : β → Prop}
  (k : ∀ h', h'[o]? = some (.row T sz (rows.set kk (spl row off (cells1 v)))) → Same o h h' → Wp (f h') Q) : Wp ((dStore tab h ty9 (.ptr o kk off) v).bind f) Q := 
 by rw [show dStore tab h ty9 (.ptr o kk off) v = pSt 1 h (.ptr o kk off) v from rfl]; exact pSt_wp ho hr hv hl hk k
def lt98_4 : List (List UInt8) := [[115, 97, 109, 112, 108, 101], [100, 114, 111, 112], [116, 111, 111, 45, 108, 111, 110, 103]]
@[simp] theorem lt98_4_ok : pLitF tab ty98 3 [0, 1, 2] [.str [115, 97, 109, 112, 108, 101], .str [100, 114, 111, 112], .str [116, 111, 111, 45, 108, 111, 110, 103]] = some (.sl 1 true (lt98_4.map fun s => [.str s])) := id rfl
@[simp] theorem ix98 (f : Bool) (rows : List (List D)) (i : Int) : dIndexAddr tab ty98 (.sl 1 f rows) (.int .i64 i) = if 0 ≤ i then (rows[i.toNat]?).map .fptr else none := by show (if 1 = 1 ∧ 0 ≤ i then (match rows[i.toNat]? with | some row => some (D.fptr row) | none => none) else none) = _; by_cases h : 0 ≤ i <;> simp [h] <;> cases rows[i.toNat]? <;> rfl
@[simp] theorem ldp31 (h : Hp) (o k f : Nat) : dLoad tab h ty31 (.ptr o k f) = (h.row o k).bind fun row => takeN 10 (row.drop f) := by show (match h.row o k with | some row => _ | none => none) = _; cases h.row o k <;> rfl
@[simp] theorem bd74_0_1 (s0 : List UInt8) (x1_0 x1_1 x1_2 x1_3 x1_4 x1_5 x1_6 x1_7 x1_8 x1_9 : D) : dBuild tab ty74 [0, 1] [.str s0, .agg [x1_0, x1_1, x1_2, x1_3, x1_4, x1_5, x1_6, x1_7, x1_8, x1_9]] = some (.agg [.str s0, x1_0, x1_1, x1_2, x1_3, x1_4, x1_5, x1_6, x1_7, x1_8, x1_9]) := id rfl
@[simp] theorem fap31_5 (o k f : Nat) : dFieldAddr tab ty31 5 (.ptr o k f) = some (.ptr o k (f + 5)) := id rfl
@[simp] theorem fap31_6 (o k f : Nat) : dFieldAddr tab ty31 6 (.ptr o k f) = some (.ptr o k (f + 6)) := id rfl
def lt98_5 : List (List UInt8) := [[116, 49], [116, 50], [], [49, 58, 50, 58, 48]]
@[simp] theorem lt98_5_ok : pLitF tab ty98 4 [0, 1, 2, 3] [.str [116, 49], .str [116, 50], .str [], .str [49, 58, 50, 58, 48]] = some (.sl 1 true (lt98_5.map fun s => [.str s])) := id rfl
def lt98_6 : List (List UInt8) := [[109, 97, 105, 110], [100, 101, 98, 117, 103]]
@[simp] theorem lt98_6_ok : pLitF tab ty98 2 [0, 1] [.str [109, 97, 105, 110], .str [100, 101, 98, 117, 103]] = some (.sl 1 true (lt98_6.map fun s => [.str s])) := id rfl
@[simp] theorem fap31_7 (o k f : Nat) : dFieldAddr tab ty31 7 (.ptr o k f) = some (.ptr o k (f + 7)) := id rfl
@[simp] theorem fap31_8 (o k f : Nat) : dFieldAddr tab ty31 8 (.ptr o k f) = some (.ptr o k (f + 8)) := id rfl
theorem wst29 {h : Hp} {o T sz kk off : Nat} {rows : List (List D)} {row : List D} {v : D} (ho : h[o]? = some (.row T sz rows)) (hr : rows[kk]? = some row) (hv : (cells1 v).length = 1) (hl : off + 1 ≤ row.length) (hk : v.okv = true) {β : Type} {f : Hp → Option β} {Q : β → Prop}
  (k : ∀ h', h'[o]? = some (.row T sz (rows.set kk (spl row off (cells1 v)))) → Same o h h' → Wp (f h') Q) : Wp ((dStore tab h ty29 (.ptr o kk off) v).bind f) Q := 
 by rw [show dStore tab h ty29 (.ptr o kk off) v = pSt 1 h (.ptr o kk off) v from rfl]; exact pSt_wp ho hr hv hl hk k
@[simp] theorem bd74_1 (x0_0 x0_1 x0_2 x0_3 x0_4 x0_5 x0_6 x0_7 x0_8 x0_9 : D) : dBuild tab ty74 [1] [.agg [x0_0, x0_1, x0_2, x0_3, x0_4, x0_5, x0_6, x0_7, x0_8, x0_9]] = some (.agg [.str [], x0_0, x0_1, x0_2, x0_3, x0_4, x0_5, x0_6, x0_7, x0_8, x0_9]) := id rfl
@[simp] theorem fa1009_0 (c0 : D) (cs : List D) : dFieldAddr tab ty1009 0 (.fptr (c0 :: cs)) = some (.fptr (c0 :: cs)) := id rfl
@[simp] theorem fap1009_0 (o k f : Nat) : dFieldAddr tab ty1009 0 (.ptr o k f) = some (.ptr o k (f + 0)) := id rfl
@[simp] theorem ld1007 (c : D) (cs : List D) (h : Hp) : dLoad tab h ty1007 (.fptr (c :: cs)) = some c := id rfl
@[simp] theorem ldp1007 (h : Hp) (o k f : Nat) : dLoad tab h ty1007 (.ptr o k f) = (h.row o k).bind fun row => (row.drop f).head? := by show (match h.row o k with | some row => _ | none => none) = _; cases h.row o k <;> rfl
@[simp] theorem fa1009_1 (c0 c1 : D) (cs : List D) : dFieldAddr tab ty1009 1 (.fptr (c0 :: c1 :: cs)) = some (.fptr (c1 :: cs)) := id rfl
@[simp] theorem fap1009_1 (o k f : Nat) : dFieldAddr tab ty1009 1 (.ptr o k f) = some (.ptr o k (f + 1)) := id rfl
@[simp] theorem ld58 (c : D) (cs : List D) (h : Hp) : dLoad tab h ty58 (.fptr (c :: cs)) = some c := id rfl
@[simp] theorem ldp58 (h : Hp) (o k f : Nat) : dLoad tab h ty58 (.ptr o k f) = (h.row o k).bind fun row => (row.drop f).head? := by show (match h.row o k with | some row => _ | none => none) = _; cases h.row o k <;> rfl
@[simp] theorem bd1009_0_1 (d0 : D) (d1 : D) (h0 : d0.one = true) (h1 : d1.one = true) : dBuild tab ty1009 [0, 1] [d0, d1] = some (.agg [d0, d1]) := by
 have c0 := one_cells h0
 have c1 := one_cells h1
 refine bd_of (T := tab) (i := ti1009) (fs := [(45, 0, 1), (46, 1, 1)]) (id rfl) (id rfl) ?_
 rw [show ti1009.zero = [.nils, .nils] from id rfl]
 rw [fill_step (off := 0) (sz := 1) (id rfl) (by rw [c0.1]; rfl) (by simp [spl, cells1_int, cells1_str, cells1_bool, cells1_agg]) c0.2, c0.1]
 rw [fill_step (off := 1) (sz := 1) (id rfl) (by rw [c1.1]; rfl) (by simp [spl, cells1_int, cells1_str, cells1_bool, cells1_agg]) c1.2, c1.1]
 exact id rfl
@[simp] theorem bd1073_0 (x0_0 x0_1 : D) : dBuild tab ty1073 [0] [.agg [x0_0, x0_1]] = some (.agg [x0_0, x0_1, .nils]) := id rfl
@[simp] theorem fap1073_0 (o k f : Nat) : dFieldAddr tab ty1073 0 (.ptr o k f) = some (.ptr o k (f + 0)) := id rfl
@[simp] theorem fap1073_1 (o k f : Nat) : dFieldAddr tab ty1073 1 (.ptr o k f) = some (.ptr o k (f + 2)) := id rfl
@[simp] theorem ldp40 (h : Hp) (o k f : Nat) : dLoad tab h ty40 (.ptr o k f) = (h.row o k).bind fun row => (row.drop f).head? := by show (match h.row o k with | some row => _ | none => none) = _; cases h.row o k <;> rfl
@[simp] theorem fa31_1 (c0 c1 : D) (cs : List D) : dFieldAddr tab ty31 1 (.fptr (c0 :: c1 :: cs)) = some (.fptr (c1 :: cs)) := id rfl
@[simp] theorem fap31_1 (o k f : Nat) : dFieldAddr tab ty31 1 (.ptr o k f) = some (.ptr o k (f + 1)) := id rfl
theorem wst58 {h : Hp} {o T sz kk off : Nat} {rows : List (List D)} {row : List D} {v : D} (ho : h[o]? = some (.row T sz rows)) (hr : rows[kk]? = some row) (hv : (cells1 v).length = 1) (hl : off + 1 ≤ row.length) (hk : v.okv = true) {β : Type} {f : Hp → Option β} {Q : β → Prop}
  (k : ∀ h', h'[o]? = some (.row T sz (rows.set kk (spl row off (cells1 v)))) → Same o h h' → Wp (f h') Q) : Wp ((dStore tab h ty58 (.ptr o kk off) v).bind f) Q := 
 by rw [show dStore tab h ty58 (.ptr o kk off) v = pSt 1 h (.ptr o kk off) v from rfl]; exact pSt_wp ho hr hv hl hk k
@[simp] theorem fa31_2 (c0 c1 c2 : D) (cs : List D) : dFieldAddr tab ty31 2 (.fptr (c0 :: c1 :: c2 :: cs)) = some (.fptr (c2 :: cs)) := id rfl
@[simp] theorem fap31_2 (o k f : Nat) : dFieldAddr tab ty31 2 (.ptr o k f) = some (.ptr o k (f + 2)) := id rfl
theorem wst1007 {h : Hp} {o T sz kk off : Nat} {rows : List (List D)} {row : List D} {v : D} (ho : h[o]? = some (.row T sz rows)) (hr : rows[kk]? = some row) (hv : (cells1 v).length = 1) (hl : off + 1 ≤ row.length) (hk : v.okv = true) {β : Type} {f : Hp → Option β} {Q : β → Prop}
  (k : ∀ h', h'[o]? = some (.row T sz (rows.set kk (spl row off (cells1 v)))) → Same o h h' → Wp (f h') Q) : Wp ((dStore tab h ty1007 (.ptr o kk off) v).bind f) Q := 
 by rw [show dStore tab h ty1007 (.ptr o kk off) v = pSt 1 h (.ptr o kk off) v from rfl]; exact pSt_wp ho hr hv hl hk k
theorem wap40 {h : Hp} {n0 : Nat} (hn0 : n0 ≤ h.length) {rows : List (List D)} {x y : D} (hx : Own h n0 ty31 10 rows x) {ys : List (List D)} (hy : dRowsOf h 10 y = some ys) (hl : (rows.length + ys.length) * 128 ≤ 140737488355328) {β : Type} {f : D × Hp → Option β} {Q : β → Prop}
  (k : ∀ x' h', Own h' n0 ty31 10 (rows ++ ys) x' → h.length ≤ h'.length → (∀ q, q < n0 → h'[q]? = h[q]?) → (∀ q, q < h.length → ¬ x.inOb q → h'[q]? = h[q]?) → (∀ q, x'.inOb q → x.inOb q ∨ h.length ≤ q) → Wp (f (x', h')) Q) : Wp ((dAppend tab h ty40 ty40 x y).bind f) Q := 
 app_wp (T := tab) (i := ti40) (j := ti31) (id rfl) (id rfl) (id rfl) (by decide) hn0 hx hy (lim_ok hl (by omega)) k
@[simp] theorem lens40 {α : Type} {f : α → List D} {l : List α} {d : D} (h : SlOf 10 f l d) : dLenT tab ty40 d = some (.int .i64 l.length) := 
 by rcases h with ⟨rfl, rfl⟩ | ⟨b, rfl⟩
    ·rfl
    ·show some (D.int .i64 ((l.map f).length : Nat)) = _; simp
@[simp] theorem ix40 (f : Bool) (rows : List (List D)) (i : Int) : dIndexAddr tab ty40 (.sl 10 f rows) (.int .i64 i) = if 0 ≤ i then (rows[i.toNat]?).map .fptr else none := by show (if 10 = 10 ∧ 0 ≤ i then (match rows[i.toNat]? with | some row => some (D.fptr row) | none => none) else none) = _; by_cases h : 0 ≤ i <;> simp [h] <;> cases rows[i.toNat]? <;> rfl
@[simp] theorem ixs40 {α : Type} {f : α → List D} {l : List α} {d : D} (h : SlOf 10 f l d) (i : Int) : dIndexAddr tab ty40 d (.int .i64 i) = if 0 ≤ i then (l[i.toNat]?).map fun p => .fptr (f p) else none := 
 by rcases h with ⟨rfl, rfl⟩ | ⟨b, rfl⟩
    ·show none = _; simp
    ·rw [ix40]; simp [Function.comp_def]
@[simp] theorem ix1007 (f : Bool) (rows : List (List D)) (i : Int) : dIndexAddr tab ty1007 (.sl 3 f rows) (.int .i64 i) = if 0 ≤ i then (rows[i.toNat]?).map .fptr else none := by show (if 3 = 3 ∧ 0 ≤ i then (match rows[i.toNat]? with | some row => some (D.fptr row) | none => none) else none) = _; by_cases h : 0 ≤ i <;> simp [h] <;> cases rows[i.toNat]? <;> rfl
@[simp] theorem ixm1007 (o r n : Nat) (i : Int) : dIndexAddr tab ty1007 (.msl 3 o r n) (.int .i64 i) = if 0 ≤ i ∧ i < n then some (.ptr o (r + i.toNat) 0) else none := by show (if 3 = 3 ∧ 0 ≤ i ∧ i < n then some (D.ptr o (r + i.toNat) 0) else none) = _; simp
@[simp] theorem ixs1007 {α : Type} {f : α → List D} {l : List α} {d : D} (h : SlOf 3 f l d) (i : Int) : dIndexAddr tab ty1007 d (.int .i64 i) = if 0 ≤ i then (l[i.toNat]?).map fun p => .fptr (f p) else none := 
 by rcases h with ⟨rfl, rfl⟩ | ⟨b, rfl⟩
    ·show none = _; simp
    ·rw [ix1007]; simp [Function.comp_def]
@[simp] theorem fa1006_2 (c0 c1 c2 : D) (cs : List D) : dFieldAddr tab ty1006 2 (.fptr (c0 :: c1 :: c2 :: cs)) = some (.fptr (c2 :: cs)) := id rfl
@[simp] theorem fap1006_2 (o k f : Nat) : dFieldAddr tab ty1006 2 (.ptr o k f) = some (.ptr o k (f + 2)) := id rfl
@[simp] theorem bs111_1 (d0 : D) (h0 : d0.one = true) : pLitF tab ty111 1 [0] [d0] = some (.sl 1 true [[d0]]) := lit_ones (T := tab) (t := ty111) (n := 1) (i := ti111) (j := ti113) (id rfl) (id rfl) (id rfl) (id rfl) [d0] rfl (by decide) (by simp [h0])
theorem wap111 {h : Hp} {n0 : Nat} (hn0 : n0 ≤ h.length) {rows : List (List D)} {x y : D} (hx : Own h n0 ty113 1 rows x) {ys : List (List D)} (hy : dRowsOf h 1 y = some ys) (hl : (rows.length + ys.length) * 24 ≤ 140737488355328) {β : Type} {f : D × Hp → Option β} {Q : β → Prop}
  (k : ∀ x' h', Own h' n0 ty113 1 (rows ++ ys) x' → h.length ≤ h'.length → (∀ q, q < n0 → h'[q]? = h[q]?) → (∀ q, q < h.length → ¬ x.inOb q → h'[q]? = h[q]?) → (∀ q, x'.inOb q → x.inOb q ∨ h.length ≤ q) → Wp (f (x', h')) Q) : Wp ((dAppend tab h ty111 ty111 x y).bind f) Q := 
 app_wp (T := tab) (i := ti111) (j := ti113) (id rfl) (id rfl) (id rfl) (by decide) hn0 hx hy (lim_ok hl (by omega)) k
@[simp] theorem ldp78 (h : Hp) (o k f : Nat) : dLoad tab h ty78 (.ptr o k f) = (h.row o k).bind fun row => takeN 3 (row.drop f) := by show (match h.row o k with | some row => _ | none => none) = _; cases h.row o k <;> rfl
def lt98_7 : List (List UInt8) := [[32], [32], [44, 32], [61], []]
@[simp] theorem lt98_7_ok : pLitF tab ty98 5 [0, 1, 2, 3, 4] [.str [32], .str [32], .str [44, 32], .str [61], .str []] = some (.sl 1 true (lt98_7.map fun s => [.str s])) := id rfl
def lt82_8 : List Int := [1, 1, 2, 5, 10, 5040]
@[simp] theorem lt82_8_ok : pLitF tab ty82 6 [0, 1, 2, 3, 4, 5] [.int .i64 1, .int .i64 1, .int .i64 2, .int .i64 5, .int .i64 10, .int .i64 5040] = some (.sl 1 true (lt82_8.map fun n => [.int .i64 n])) := id rfl
def lt98_9 : List (List UInt8) := [[99, 111, 100, 101], [108, 101, 118, 101, 108], [109, 115], [117, 115, 101, 114]]
@[simp] theorem lt98_9_len : lt98_9.length = 4 := id rfl
@[simp] theorem lt98_9_ok : pLitF tab ty98 4 [0, 1, 2, 3] [.str [99, 111, 100, 101], .str [108, 101, 118, 101, 108], .str [109, 115], .str [117, 115, 101, 114]] = some (.sl 1 true (lt98_9.map fun s => [.str s])) := id rfl
@[simp] theorem len98 (z : Nat) (f : Bool) (rows : List (List D)) : dLenT tab ty98 (.sl z f rows) = some (.int .i64 rows.length) := id rfl
@[simp] theorem bd109_0_1 (s0 : List UInt8) (s1 : List UInt8) : dBuild tab ty109 [0, 1] [.str s0, .str s1] = some (.agg [.str s0, .str s1]) := id rfl
@[simp] theorem bs29_1 (x0_0 x0_1 : D) : pLitF tab ty29 1 [0] [.agg [x0_0, x0_1]] = some (.sl 2 true [[x0_0, x0_1]]) := id rfl
theorem wap29 {h : Hp} {n0 : Nat} (hn0 : n0 ≤ h.length) {rows : List (List D)} {x y : D} (hx : Own h n0 ty109 2 rows x) {ys : List (List D)} (hy : dRowsOf h 2 y = some ys) (hl : (rows.length + ys.length) * 32 ≤ 140737488355328) {β : Type} {f : D × Hp → Option β} {Q : β → Prop}
  (k : ∀ x' h', Own h' n0 ty109 2 (rows ++ ys) x' → h.length ≤ h'.length → (∀ q, q < n0 → h'[q]? = h[q]?) → (∀ q, q < h.length → ¬ x.inOb q → h'[q]? = h[q]?) → (∀ q, x'.inOb q → x.inOb q ∨ h.length ≤ q) → Wp (f (x', h')) Q) : Wp ((dAppend tab h ty29 ty29 x y).bind f) Q := 
 app_wp (T := tab) (i := ti29) (j := ti109) (id rfl) (id rfl) (id rfl) (by decide) hn0 hx hy (lim_ok hl (by omega)) k
@[simp] theorem bs1007_0  : pLitF tab ty1007 0 [] [] = some (.sl 3 true []) := id rfl
theorem wap1007 {h : Hp} {n0 : Nat} (hn0 : n0 ≤ h.length) {rows : List (List D)} {x y : D} (hx : Own h n0 ty1006 3 rows x) {ys : List (List D)} (hy : dRowsOf h 3 y = some ys) (hl : (rows.length + ys.length) * 24 ≤ 140737488355328) {β : Type} {f : D × Hp → Option β} {Q : β → Prop}
  (k : ∀ x' h', Own h' n0 ty1006 3 (rows ++ ys) x' → h.length ≤ h'.length → (∀ q, q < n0 → h'[q]? = h[q]?) → (∀ q, q < h.length → ¬ x.inOb q → h'[q]? = h[q]?) → (∀ q, x'.inOb q → x.inOb q ∨ h.length ≤ q) → Wp (f (x', h')) Q) : Wp ((dAppend tab h ty1007 ty1007 x y).bind f) Q := 
 app_wp (T := tab) (i := ti1007) (j := ti1006) (id rfl) (id rfl) (id rfl) (by decide) hn0 hx hy (lim_ok hl (by omega)) k
@[simp] theorem bs58_0  : pLitF tab ty58 0 [] [] = some (.sl 3 true []) := id rfl
theorem wap58 {h : Hp} {n0 : Nat} (hn0 : n0 ≤ h.length) {rows : List (List D)} {x y : D} (hx : Own h n0 ty106 3 rows x) {ys : List (List D)} (hy : dRowsOf h 3 y = some ys) (hl : (rows.length + ys.length) * 32 ≤ 140737488355328) {β : Type} {f : D × Hp → Option β} {Q : β → Prop}
  (k : ∀ x' h', Own h' n0 ty106 3 (rows ++ ys) x' → h.length ≤ h'.length → (∀ q, q < n0 → h'[q]? = h[q]?) → (∀ q, q < h.length → ¬ x.inOb q → h'[q]? = h[q]?) → (∀ q, x'.inOb q → x.inOb q ∨ h.length ≤ q) → Wp (f (x', h')) Q) : Wp ((dAppend tab h ty58 ty58 x y).bind f) Q := 
 app_wp (T := tab) (i := ti58) (j := ti106) (id rfl) (id rfl) (id rfl) (by decide) hn0 hx hy (lim_ok hl (by omega)) k
theorem wst40 {h : Hp} {o T sz kk off : Nat} {rows : List (List D)} {row : List D} {v : D} (ho : h[o]? = some (.row T sz rows)) (hr : rows[kk]? = some row) (hv : (cells1 v).length = 1) (hl : off + 1 ≤ row.length) (hk : v.okv = true) {β : Type} {f : Hp → Option β} {Q : β → Prop}
  (k : ∀ h', h'[o]? = some (.row T sz (rows.set kk (spl row off (cells1 v)))) → Same o h h' → Wp (f h') Q) : Wp ((dStore tab h ty40 (.ptr o kk off) v).bind f) Q := 
 by rw [show dStore tab h ty40 (.ptr o kk off) v = pSt 1 h (.ptr o kk off) v from rfl]; exact pSt_wp ho hr hv hl hk k
@[simp] theorem lens58 {α : Type} {f : α → List D} {l : List α} {d : D} (h : SlOf 3 f l d) : dLenT tab ty58 d = some (.int .i64 l.length) := 
 by rcases h with ⟨rfl, rfl⟩ | ⟨b, rfl⟩
    ·rfl
    ·show some (D.int .i64 ((l.map f).length : Nat)) = _; simp
@[simp] theorem lenm58 (z o r n : Nat) : dLenT tab ty58 (.msl z o r n) = some (.int .i64 n) := id rfl
@[simp] theorem ix58 (f : Bool) (rows : List (List D)) (i : Int) : dIndexAddr tab ty58 (.sl 3 f rows) (.int .i64 i) = if 0 ≤ i then (rows[i.toNat]?).map .fptr else none := by show (if 3 = 3 ∧ 0 ≤ i then (match rows[i.toNat]? with | some row => some (D.fptr row) | none => none) else none) = _; by_cases h : 0 ≤ i <;> simp [h] <;> cases rows[i.toNat]? <;> rfl
@[simp] theorem ixm58 (o r n : Nat) (i : Int) : dIndexAddr tab ty58 (.msl 3 o r n) (.int .i64 i) = if 0 ≤ i ∧ i < n then some (.ptr o (r + i.toNat) 0) else none := by show (if 3 = 3 ∧ 0 ≤ i ∧ i < n then some (D.ptr o (r + i.toNat) 0) else none) = _; simp
@[simp] theorem ixs58 {α : Type} {f : α → List D} {l : List α} {d : D} (h : SlOf 3 f l d) (i : Int) : dIndexAddr tab ty58 d (.int .i64 i) = if 0 ≤ i then (l[i.toNat]?).map fun p => .fptr (f p) else none := 
 by rcases h with ⟨rfl, rfl⟩ | ⟨b, rfl⟩
    ·show none = _; simp
    ·rw [ix58]; simp [Function.comp_def]
@[simp] theorem fa106_0 (c0 : D) (cs : List D) : dFieldAddr tab ty106 0 (.fptr (c0 :: cs)) = some (.fptr (c0 :: cs)) := id rfl
@[simp] theorem fa106_1 (c0 c1 : D) (cs : List D) : dFieldAddr tab ty106 1 (.fptr (c0 :: c1 :: cs)) = some (.fptr (c1 :: cs)) := id rfl
@[simp] theorem fap106_2 (o k f : Nat) : dFieldAddr tab ty106 2 (.ptr o k f) = some (.ptr o k (f + 2)) := id rfl
@[simp] theorem bd106_0_1_2 (n0 : Int) (s1 : List UInt8) (n2 : Int) : dBuild tab ty106 [0, 1, 2] [.int .i64 n0, .str s1, .int .i64 n2] = some (.agg [.int .i64 n0, .str s1, .int .i64 n2]) := id rfl
@[simp] theorem bs58_1 (x0_0 x0_1 x0_2 : D) : pLitF tab ty58 1 [0] [.agg [x0_0, x0_1, x0_2]] = some (.sl 3 true [[x0_0, x0_1, x0_2]]) := id rfl
@[simp] theorem fa78_0 (c0 : D) (cs : List D) : dFieldAddr tab ty78 0 (.fptr (c0 :: cs)) = some (.fptr (c0 :: cs)) := id rfl
@[simp] theorem fap78_0 (o k f : Nat) : dFieldAddr tab ty78 0 (.ptr o k f) = some (.ptr o k (f + 0)) := id rfl
@[simp] theorem bd74_  : dBuild tab ty74 [] [] = some (.agg [.str [], .int .i64 0, .int .i64 0, .int .i64 0, .int .i64 0, .nils, .int .i64 0, .int .i64 0, .str [], .str [], .nils]) := id rfl
@[simp] theorem fa1006_0 (c0 : D) (cs : List D) : dFieldAddr tab ty1006 0 (.fptr (c0 :: cs)) = some (.fptr (c0 :: cs)) := id rfl
@[simp] theorem fa1006_1 (c0 c1 : D) (cs : List D) : dFieldAddr tab ty1006 1 (.fptr (c0 :: c1 :: cs)) = some (.fptr (c1 :: cs)) := id rfl
theorem slh1007 {α : Type} {f : α → List D} {l : List α} {d : D} (hd : SlOf 3 f l d) {k : IntKind} {n : Int} (h0 : 0 ≤ n) (h1 : n ≤ l.length) :
  ∃ d', dSliceAt tab ty1007 false true false [d, .int k n] = some d' ∧ SlOf 3 f (l.take n.toNat) d' := slof_hi (T := tab) (i := ti1007) (j := ti1006) (id rfl) (id rfl) (id rfl) (id rfl) hd h0 h1
@[simp] theorem ldp1006 (h : Hp) (o k f : Nat) : dLoad tab h ty1006 (.ptr o k f) = (h.row o k).bind fun row => takeN 3 (row.drop f) := by show (match h.row o k with | some row => _ | none => none) = _; cases h.row o k <;> rfl
theorem sll1007 {α : Type} {f : α → List D} {l : List α} {d : D} (hd : SlOf 3 f l d) {k : IntKind} {n : Int} (h0 : 0 ≤ n) (h1 : n ≤ l.length) :
  ∃ d', dSliceAt tab ty1007 true false false [d, .int k n] = some d' ∧ SlOf 3 f (l.drop n.toNat) d' := slof_lo (T := tab) (i := ti1007) (j := ti1006) (id rfl) (id rfl) (id rfl) (id rfl) hd h0 h1
@[simp] theorem lens1007 {α : Type} {f : α → List D} {l : List α} {d : D} (h : SlOf 3 f l d) : dLenT tab ty1007 d = some (.int .i64 l.length) := 
 by rcases h with ⟨rfl, rfl⟩ | ⟨b, rfl⟩
    ·rfl
    ·show some (D.int .i64 ((l.map f).length : Nat)) = _; simp
@[simp] theorem lenm1007 (z o r n : Nat) : dLenT tab ty1007 (.msl z o r n) = some (.int .i64 n) := id rfl
@[simp] theorem bneq1006 (a0 b0 : Int) (a1 b1 : Int) (a2 b2 : Int) : dBin tab .neq ty1006 (.agg [.int .i64 a0, .int .i64 a1, .int .i64 a2]) (.agg [.int .i64 b0, .int .i64 b1, .int .i64 b2]) = some (.bool (!(a0 == b0 && (a1 == b1 && (a2 == b2 && true))))) := id rfl
@[simp] theorem ldp106 (h : Hp) (o k f : Nat) : dLoad tab h ty106 (.ptr o k f) = (h.row o k).bind fun row => takeN 3 (row.drop f) := by show (match h.row o k with | some row => _ | none => none) = _; cases h.row o k <;> rfl
@[simp] theorem bneq106 (a0 b0 : Int) (a1 b1 : List UInt8) (a2 b2 : Int) : dBin tab .neq ty106 (.agg [.int .i64 a0, .str a1, .int .i64 a2]) (.agg [.int .i64 b0, .str b1, .int .i64 b2]) = some (.bool (!(a0 == b0 && (a1 == b1 && (a2 == b2 && true))))) := id rfl
theorem wst78 {h : Hp} {o T sz kk off : Nat} {rows : List (List D)} {row : List D} {v : D} (ho : h[o]? = some (.row T sz rows)) (hr : rows[kk]? = some row) (hv : (cells1 v).length = 3) (hl : off + 3 ≤ row.length) (hk : v.okv = true) {β : Type} {f : Hp → Option β} {Q : β → Prop}
  (k : ∀ h', h'[o]? = some (.row T sz (rows.set kk (spl row off (cells1 v)))) → Same o h h' → Wp (f h') Q) : Wp ((dStore tab h ty78 (.ptr o kk off) v).bind f) Q := 
 by rw [show dStore tab h ty78 (.ptr o kk off) v = pSt 3 h (.ptr o kk off) v from rfl]; exact pSt_wp ho hr hv hl hk k
@[simp] theorem fap78_1 (o k f : Nat) : dFieldAddr tab ty78 1 (.ptr o k f) = some (.ptr o k (f + 1)) := id rfl
@[simp] theorem ix29 (f : Bool) (rows : List (List D)) (i : Int) : dIndexAddr tab ty29 (.sl 2 f rows) (.int .i64 i) = if 0 ≤ i then (rows[i.toNat]?).map .fptr else none := by show (if 2 = 2 ∧ 0 ≤ i then (match rows[i.toNat]? with | some row => some (D.fptr row) | none => none) else none) = _; by_cases h : 0 ≤ i <;> simp [h] <;> cases rows[i.toNat]? <;> rfl
@[simp] theorem ixm29 (o r n : Nat) (i : Int) : dIndexAddr tab ty29 (.msl 2 o r n) (.int .i64 i) = if 0 ≤ i ∧ i < n then some (.ptr o (r + i.toNat) 0) else none := by show (if 2 = 2 ∧ 0 ≤ i ∧ i < n then some (D.ptr o (r + i.toNat) 0) else none) = _; simp
@[simp] theorem ixs29 {α : Type} {f : α → List D} {l : List α} {d : D} (h : SlOf 2 f l d) (i : Int) : dIndexAddr tab ty29 d (.int .i64 i) = if 0 ≤ i then (l[i.toNat]?).map fun p => .fptr (f p) else none := 
 by rcases h with ⟨rfl, rfl⟩ | ⟨b, rfl⟩
    ·show none = _; simp
    ·rw [ix29]; simp [Function.comp_def]
@[simp] theorem fa109_1 (c0 c1 : D) (cs : List D) : dFieldAddr tab ty109 1 (.fptr (c0 :: c1 :: cs)) = some (.fptr (c1 :: cs)) := id rfl
def lt98_10 : List (List UInt8) := [[103, 101, 116], [101, 114, 114, 111, 114], [119, 97, 114, 110], [97, 49], [117, 115, 101, 114, 95, 55], [120], [84, 105, 109, 101, 111, 117, 116], [50, 48, 48], [71, 69, 84], [101, 114, 114, 111], [122], [], [255], [97, 46, 98]]
@[simp] theorem lt98_10_len : lt98_10.length = 14 := id rfl
@[simp] theorem lt98_10_ok : pLitF tab ty98 14 [0, 1, 2, 3, 4, 5, 6, 7, 8, 9, 10, 11, 12, 13] [.str [103, 101, 116], .str [101, 114, 114, 111, 114], .str [119, 97, 114, 110], .str [97, 49], .str [117, 115, 101, 114, 95, 55], .str [120], .str [84, 105, 109, 101, 111, 117, 116], .str [50, 48, 48], .str [71, 69, 84], .str [101, 114, 114, 111], .str [122], .str [], .str [255], .str [97, 46, 98]] = some (.sl 1 true (lt98_10.map fun s => [.str s])) := id rfl
def lt98_1 : List (List UInt8) := [[119, 97, 114, 110], [105, 110, 102, 111], [55], [45, 51], [51, 49], [], [120, 32, 121], [57, 57, 57, 57, 57, 57, 57, 57, 57, 57, 57, 57, 57, 57, 57, 57, 57, 57], [49, 48, 48, 48, 48, 48, 48, 48, 48, 48, 48, 48, 48, 48, 48, 48, 48, 48, 48], [48, 55], [45]]
@[simp] theorem lt98_1_len : lt98_1.length = 11 := id rfl
@[simp] theorem lt98_1_ok : pLitF tab ty98 11 [0, 1, 2, 3, 4, 5, 6, 7, 8, 9, 10] [.str [119, 97, 114, 110], .str [105, 110, 102, 111], .str [55], .str [45, 51], .str [51, 49], .str [], .str [120, 32, 121], .str [57, 57, 57, 57, 57, 57, 57, 57, 57, 57, 57, 57, 57, 57, 57, 57, 57, 57], .str [49, 48, 48, 48, 48, 48, 48, 48, 48, 48, 48, 48, 48, 48, 48, 48, 48, 48, 48], .str [48, 55], .str [45]] = some (.sl 1 true (lt98_1.map fun s => [.str s])) := id rfl
@[simp] theorem bs28_0  : pLitF tab ty28 0 [] [] = some (.sl 3 true []) := id rfl
@[simp] theorem bs29_0  : pLitF tab ty29 0 [] [] = some (.sl 2 true []) := id rfl
@[simp] theorem cv3_134 (k : IntKind) (n : Int) : dConv tab ty3 ty134 (.int k n) = some (.int .u64 (IntKind.wrap .u64 n)) := id rfl
@[simp] theorem cv134_3 (k : IntKind) (n : Int) : dConv tab ty134 ty3 (.int k n) = some (.int .i64 (IntKind.wrap .i64 n)) := id rfl
@[simp] theorem lens82 {α : Type} {f : α → List D} {l : List α} {d : D} (h : SlOf 1 f l d) : dLenT tab ty82 d = some (.int .i64 l.length) := 
 by rcases h with ⟨rfl, rfl⟩ | ⟨b, rfl⟩
    ·rfl
    ·show some (D.int .i64 ((l.map f).length : Nat)) = _; simp
@[simp] theorem ldp109 (h : Hp) (o k f : Nat) : dLoad tab h ty109 (.ptr o k f) = (h.row o k).bind fun row => takeN 2 (row.drop f) := by show (match h.row o k with | some row => _ | none => none) = _; cases h.row o k <;> rfl
theorem wst109 {h : Hp} {o T sz kk off : Nat} {rows : List (List D)} {row : List D} {v : D} (ho : h[o]? = some (.row T sz rows)) (hr : rows[kk]? = some row) (hv : (cells1 v).length = 2) (hl : off + 2 ≤ row.length) (hk : v.okv = true) {β : Type} {f : Hp → Option β} {Q : β → Prop}
  (k : ∀ h', h'[o]? = some (.row T sz (rows.set kk (spl row off (cells1 v)))) → Same o h h' → Wp (f h') Q) : Wp ((dStore tab h ty109 (.ptr o kk off) v).bind f) Q := 
 by rw [show dStore tab h ty109 (.ptr o kk off) v = pSt 2 h (.ptr o kk off) v from rfl]; exact pSt_wp ho hr hv hl hk k
@[simp] theorem fap109_0 (o k f : Nat) : dFieldAddr tab ty109 0 (.ptr o k f) = some (.ptr o k (f + 0)) := id rfl
@[simp] theorem bneq109 (a0 b0 : List UInt8) (a1 b1 : List UInt8) : dBin tab .neq ty109 (.agg [.str a0, .str a1]) (.agg [.str b0, .str b1]) = some (.bool (!(a0 == b0 && (a1 == b1 && true)))) := id rfl
@[simp] theorem bd106_0_1 (n0 : Int) (s1 : List UInt8) : dBuild tab ty106 [0, 1] [.int .i64 n0, .str s1] = some (.agg [.int .i64 n0, .str s1, .int .i64 0]) := id rfl
@[simp] theorem bneq78 (a0 b0 : Int) (a1 b1 : Int) (a2 b2 : List UInt8) : dBin tab .neq ty78 (.agg [.int .i64 a0, .int .i64 a1, .str a2]) (.agg [.int .i64 b0, .int .i64 b1, .str b2]) = some (.bool (!(a0 == b0 && (a1 == b1 && (a2 == b2 && true))))) := id rfl
end Go.Proofs.YthaajlepgblimaaDoor
