/- Operations at the types of this seat. -/
import Derived.Test.YtfjbbeleejnbgaaC1
import Derived.Test.YtfjbbeleejnbgaaPiZ
set_option linter.unusedSimpArgs false
set_option linter.unusedVariables false
set_option linter.unnecessarySimpa false
set_option maxRecDepth 20000
set_option maxHeartbeats 2000000
namespace Go.Proofs.Ytfjbbeleejnbgaa
open Go.Eng Go.Pi
theorem wst1009 {h : Hp} {o T sz kk off : Nat} {rows : List (List D)} {row : List D} {v : D} (ho : h[o]? = some (.row T sz rows)) (hr : rows[kk]? = some row) (hv : (cells1 v).length = 2) (hl : off + 2 ≤ row.length) (hk : v.okv = true) {β : Type} {f : Hp → Option β} {Q : β → Prop}
    (k : ∀ h', h'[o]? = some (.row T sz (rows.set kk (spl row off (cells1 v)))) → Same o h h' → Wp (f h') Q) : Wp ((dStore tab h ty1009 (.ptr o kk off) v).bind f) Q := 
  by rw [show dStore tab h ty1009 (.ptr o kk off) v = pSt 2 h (.ptr o kk off) v from rfl]; exact pSt_wp ho hr hv hl hk k
theorem sto1009 (h : Hp) (o kk off : Nat) (v : D) : dStore tab h ty1009 (.ptr o kk off) v = pSt 2 h (.ptr o kk off) v := id rfl
@[simp] theorem bs82_3 (n0 : Int) (n1 : Int) (n2 : Int) : pLitF tab ty82 3 [0, 1, 2] [.int .i64 n0, .int .i64 n1, .int .i64 n2] = some (.sl 1 true [[.int .i64 n0], [.int .i64 n1], [.int .i64 n2]]) := id rfl
@[simp] theorem lens82 {α : Type} {f : α → List D} {l : List α} {d : D} (h : SlOf 1 f l d) : dLenT tab ty82 d = some (.int .i64 l.length) := 
  by rcases h with ⟨rfl, rfl⟩ | ⟨b, rfl⟩
     · rfl
     · show some (D.int .i64 ((l.map f).length : Nat)) = _; simp
theorem leno82 {h : Hp} {n0 e z : Nat} {rows : List (List D)} {d : D} (hd : Own h n0 e z rows d) : dLenT tab ty82 d = some (.int .i64 rows.length) := by
  rcases hd with ⟨rfl, rfl⟩ | ⟨o, _, rfl, _⟩ <;> rfl
@[simp] theorem len82 (z : Nat) (f : Bool) (rows : List (List D)) : dLenT tab ty82 (.sl z f rows) = some (.int .i64 rows.length) := id rfl
@[simp] theorem lenm82 (z o r n : Nat) : dLenT tab ty82 (.msl z o r n) = some (.int .i64 n) := id rfl
@[simp] theorem lenn82 : dLenT tab ty82 .nils = some (.int .i64 0) := id rfl
@[simp] theorem ix82 (f : Bool) (rows : List (List D)) (i : Int) : dIndexAddr tab ty82 (.sl 1 f rows) (.int .i64 i) = if 0 ≤ i then (rows[i.toNat]?).map .fptr else none := by show (if 1 = 1 ∧ 0 ≤ i then (match rows[i.toNat]? with | some row => some (D.fptr row) | none => none) else none) = _; by_cases h : 0 ≤ i <;> simp [h] <;> cases rows[i.toNat]? <;> rfl
@[simp] theorem ixm82 (o r n : Nat) (i : Int) : dIndexAddr tab ty82 (.msl 1 o r n) (.int .i64 i) = if 0 ≤ i ∧ i < n then some (.ptr o (r + i.toNat) 0) else none := by show (if 1 = 1 ∧ 0 ≤ i ∧ i < n then some (D.ptr o (r + i.toNat) 0) else none) = _; simp
@[simp] theorem ixs82 {α : Type} {f : α → List D} {l : List α} {d : D} (h : SlOf 1 f l d) (i : Int) : dIndexAddr tab ty82 d (.int .i64 i) = if 0 ≤ i then (l[i.toNat]?).map fun p => .fptr (f p) else none := 
  by rcases h with ⟨rfl, rfl⟩ | ⟨b, rfl⟩
     · show none = _; simp
     · rw [ix82]; simp [Function.comp_def]
@[simp] theorem ld3 (c : D) (cs : List D) (h : Hp) : dLoad tab h ty3 (.fptr (c :: cs)) = some c := id rfl
@[simp] theorem ldp3 (h : Hp) (o k f : Nat) : dLoad tab h ty3 (.ptr o k f) = (h.row o k).bind fun row => (row.drop f).head? := by show (match h.row o k with | some row => _ | none => none) = _; cases h.row o k <;> rfl
def lt98_36 : List (List UInt8) := [[], [42], [100, 114, 111, 112], [110, 111, 110, 101]]
@[simp] theorem lt98_36_len : lt98_36.length = 4 := id rfl
@[simp] theorem lt98_36_ok : pLitF tab ty98 4 [0, 1, 2, 3] [.str [], .str [42], .str [100, 114, 111, 112], .str [110, 111, 110, 101]] = some (.sl 1 true (lt98_36.map fun s => [.str s])) := id rfl
@[simp] theorem ix98 (f : Bool) (rows : List (List D)) (i : Int) : dIndexAddr tab ty98 (.sl 1 f rows) (.int .i64 i) = if 0 ≤ i then (rows[i.toNat]?).map .fptr else none := by show (if 1 = 1 ∧ 0 ≤ i then (match rows[i.toNat]? with | some row => some (D.fptr row) | none => none) else none) = _; by_cases h : 0 ≤ i <;> simp [h] <;> cases rows[i.toNat]? <;> rfl
@[simp] theorem ixm98 (o r n : Nat) (i : Int) : dIndexAddr tab ty98 (.msl 1 o r n) (.int .i64 i) = if 0 ≤ i ∧ i < n then some (.ptr o (r + i.toNat) 0) else none := by show (if 1 = 1 ∧ 0 ≤ i ∧ i < n then some (D.ptr o (r + i.toNat) 0) else none) = _; simp
@[simp] theorem ixs98 {α : Type} {f : α → List D} {l : List α} {d : D} (h : SlOf 1 f l d) (i : Int) : dIndexAddr tab ty98 d (.int .i64 i) = if 0 ≤ i then (l[i.toNat]?).map fun p => .fptr (f p) else none := 
  by rcases h with ⟨rfl, rfl⟩ | ⟨b, rfl⟩
     · show none = _; simp
     · rw [ix98]; simp [Function.comp_def]
@[simp] theorem ld9 (c : D) (cs : List D) (h : Hp) : dLoad tab h ty9 (.fptr (c :: cs)) = some c := id rfl
@[simp] theorem ldp9 (h : Hp) (o k f : Nat) : dLoad tab h ty9 (.ptr o k f) = (h.row o k).bind fun row => (row.drop f).head? := by show (match h.row o k with | some row => _ | none => none) = _; cases h.row o k <;> rfl
@[simp] theorem ld1009 (c0 c1 : D) (cs : List D) (h : Hp) : dLoad tab h ty1009 (.fptr (c0 :: c1 :: cs)) = some (.agg [c0, c1]) := id rfl
@[simp] theorem ldp1009 (h : Hp) (o k f : Nat) : dLoad tab h ty1009 (.ptr o k f) = (h.row o k).bind fun row => takeN 2 (row.drop f) := by show (match h.row o k with | some row => _ | none => none) = _; cases h.row o k <;> rfl
@[simp] theorem fa1009_1 (c0 c1 : D) (cs : List D) : dFieldAddr tab ty1009 1 (.fptr (c0 :: c1 :: cs)) = some (.fptr (c1 :: cs)) := id rfl
@[simp] theorem fap1009_1 (o k f : Nat) : dFieldAddr tab ty1009 1 (.ptr o k f) = some (.ptr o k (f + 1)) := id rfl
@[simp] theorem ld58 (c : D) (cs : List D) (h : Hp) : dLoad tab h ty58 (.fptr (c :: cs)) = some c := id rfl
@[simp] theorem ldp58 (h : Hp) (o k f : Nat) : dLoad tab h ty58 (.ptr o k f) = (h.row o k).bind fun row => (row.drop f).head? := by show (match h.row o k with | some row => _ | none => none) = _; cases h.row o k <;> rfl
@[simp] theorem bd1006_0_1_2 (n0 : Int) (n1 : Int) (n2 : Int) : dBuild tab ty1006 [0, 1, 2] [.int .i64 n0, .int .i64 n1, .int .i64 n2] = some (.agg [.int .i64 n0, .int .i64 n1, .int .i64 n2]) := id rfl
@[simp] theorem bs1007_1 (x0_0 x0_1 x0_2 : D) : pLitF tab ty1007 1 [0] [.agg [x0_0, x0_1, x0_2]] = some (.sl 3 true [[x0_0, x0_1, x0_2]]) := id rfl
@[simp] theorem bd1009_0 (d0 : D) (h0 : d0.one = true) : dBuild tab ty1009 [0] [d0] = some (.agg [d0, .nils]) := by
  have c0 := one_cells h0
  refine bd_of (T := tab) (i := ti1009) (fs := [(26, 0, 1), (27, 1, 1)]) (id rfl) (id rfl) ?_
  rw [show ti1009.zero = [.nils, .nils] from id rfl]
  rw [fill_step (off := 0) (sz := 1) (id rfl) (by rw [c0.1]; rfl) (by simp [spl, cells1_int, cells1_str, cells1_bool, cells1_agg]) c0.2, c0.1]
  exact id rfl
@[simp] theorem lens22 {α : Type} {f : α → List D} {l : List α} {d : D} (h : SlOf 1 f l d) : dLenT tab ty22 d = some (.int .i64 l.length) := 
  by rcases h with ⟨rfl, rfl⟩ | ⟨b, rfl⟩
     · rfl
     · show some (D.int .i64 ((l.map f).length : Nat)) = _; simp
theorem leno22 {h : Hp} {n0 e z : Nat} {rows : List (List D)} {d : D} (hd : Own h n0 e z rows d) : dLenT tab ty22 d = some (.int .i64 rows.length) := by
  rcases hd with ⟨rfl, rfl⟩ | ⟨o, _, rfl, _⟩ <;> rfl
@[simp] theorem len22 (z : Nat) (f : Bool) (rows : List (List D)) : dLenT tab ty22 (.sl z f rows) = some (.int .i64 rows.length) := id rfl
@[simp] theorem lenm22 (z o r n : Nat) : dLenT tab ty22 (.msl z o r n) = some (.int .i64 n) := id rfl
@[simp] theorem lenn22 : dLenT tab ty22 .nils = some (.int .i64 0) := id rfl
theorem slh22 {α : Type} {f : α → List D} {l : List α} {d : D} (hd : SlOf 1 f l d) {k : IntKind} {n : Int} (h0 : 0 ≤ n) (h1 : n ≤ l.length) :
    ∃ d', dSliceAt tab ty22 false true false [d, .int k n] = some d' ∧ SlOf 1 f (l.take n.toNat) d' := slof_hi (T := tab) (i := ti22) (j := ti5) (id rfl) (id rfl) (id rfl) (id rfl) hd h0 h1
@[simp] theorem bd101_0 (d0 : D) (h0 : d0.one = true) : dBuild tab ty101 [0] [d0] = some (.agg [d0, .int .i64 0]) := by
  have c0 := one_cells h0
  refine bd_of (T := tab) (i := ti101) (fs := [(22, 0, 1), (3, 1, 1)]) (id rfl) (id rfl) ?_
  rw [show ti101.zero = [.nils, .int .i64 0] from id rfl]
  rw [fill_step (off := 0) (sz := 1) (id rfl) (by rw [c0.1]; rfl) (by simp [spl, cells1_int, cells1_str, cells1_bool, cells1_agg]) c0.2, c0.1]
  exact id rfl
@[simp] theorem fa1009_0 (c0 : D) (cs : List D) : dFieldAddr tab ty1009 0 (.fptr (c0 :: cs)) = some (.fptr (c0 :: cs)) := id rfl
@[simp] theorem fap1009_0 (o k f : Nat) : dFieldAddr tab ty1009 0 (.ptr o k f) = some (.ptr o k (f + 0)) := id rfl
@[simp] theorem ld1007 (c : D) (cs : List D) (h : Hp) : dLoad tab h ty1007 (.fptr (c :: cs)) = some c := id rfl
@[simp] theorem ldp1007 (h : Hp) (o k f : Nat) : dLoad tab h ty1007 (.ptr o k f) = (h.row o k).bind fun row => (row.drop f).head? := by show (match h.row o k with | some row => _ | none => none) = _; cases h.row o k <;> rfl
theorem wap1007 {h : Hp} {n0 : Nat} (hn0 : n0 ≤ h.length) {rows : List (List D)} {x y : D} (hx : Own h n0 ty1006 3 rows x) {ys : List (List D)} (hy : dRowsOf h 3 y = some ys) (hl : (rows.length + ys.length) * 24 ≤ 140737488355328) {β : Type} {f : D × Hp → Option β} {Q : β → Prop}
    (k : ∀ x' h', Own h' n0 ty1006 3 (rows ++ ys) x' → h.length ≤ h'.length → (∀ q, q < n0 → h'[q]? = h[q]?) → (∀ q, q < h.length → ¬ x.inOb q → h'[q]? = h[q]?) → (∀ q, x'.inOb q → x.inOb q ∨ h.length ≤ q) → Wp (f (x', h')) Q) : Wp ((dAppend tab h ty1007 ty1007 x y).bind f) Q := 
  app_wp (T := tab) (i := ti1007) (j := ti1006) (id rfl) (id rfl) (id rfl) (by decide) hn0 hx hy (lim_ok hl (by omega)) k
theorem wst1007 {h : Hp} {o T sz kk off : Nat} {rows : List (List D)} {row : List D} {v : D} (ho : h[o]? = some (.row T sz rows)) (hr : rows[kk]? = some row) (hv : (cells1 v).length = 1) (hl : off + 1 ≤ row.length) (hk : v.okv = true) {β : Type} {f : Hp → Option β} {Q : β → Prop}
    (k : ∀ h', h'[o]? = some (.row T sz (rows.set kk (spl row off (cells1 v)))) → Same o h h' → Wp (f h') Q) : Wp ((dStore tab h ty1007 (.ptr o kk off) v).bind f) Q := 
  by rw [show dStore tab h ty1007 (.ptr o kk off) v = pSt 1 h (.ptr o kk off) v from rfl]; exact pSt_wp ho hr hv hl hk k
theorem sto1007 (h : Hp) (o kk off : Nat) (v : D) : dStore tab h ty1007 (.ptr o kk off) v = pSt 1 h (.ptr o kk off) v := id rfl
theorem wst58 {h : Hp} {o T sz kk off : Nat} {rows : List (List D)} {row : List D} {v : D} (ho : h[o]? = some (.row T sz rows)) (hr : rows[kk]? = some row) (hv : (cells1 v).length = 1) (hl : off + 1 ≤ row.length) (hk : v.okv = true) {β : Type} {f : Hp → Option β} {Q : β → Prop}
    (k : ∀ h', h'[o]? = some (.row T sz (rows.set kk (spl row off (cells1 v)))) → Same o h h' → Wp (f h') Q) : Wp ((dStore tab h ty58 (.ptr o kk off) v).bind f) Q := 
  by rw [show dStore tab h ty58 (.ptr o kk off) v = pSt 1 h (.ptr o kk off) v from rfl]; exact pSt_wp ho hr hv hl hk k
theorem sto58 (h : Hp) (o kk off : Nat) (v : D) : dStore tab h ty58 (.ptr o kk off) v = pSt 1 h (.ptr o kk off) v := id rfl
@[simp] theorem fa101_0 (c0 : D) (cs : List D) : dFieldAddr tab ty101 0 (.fptr (c0 :: cs)) = some (.fptr (c0 :: cs)) := id rfl
@[simp] theorem fap101_0 (o k f : Nat) : dFieldAddr tab ty101 0 (.ptr o k f) = some (.ptr o k (f + 0)) := id rfl
@[simp] theorem ld22 (c : D) (cs : List D) (h : Hp) : dLoad tab h ty22 (.fptr (c :: cs)) = some c := id rfl
@[simp] theorem ldp22 (h : Hp) (o k f : Nat) : dLoad tab h ty22 (.ptr o k f) = (h.row o k).bind fun row => (row.drop f).head? := by show (match h.row o k with | some row => _ | none => none) = _; cases h.row o k <;> rfl
@[simp] theorem fa101_1 (c0 c1 : D) (cs : List D) : dFieldAddr tab ty101 1 (.fptr (c0 :: c1 :: cs)) = some (.fptr (c1 :: cs)) := id rfl
@[simp] theorem fap101_1 (o k f : Nat) : dFieldAddr tab ty101 1 (.ptr o k f) = some (.ptr o k (f + 1)) := id rfl
@[simp] theorem ix22 (f : Bool) (rows : List (List D)) (i : Int) : dIndexAddr tab ty22 (.sl 1 f rows) (.int .i64 i) = if 0 ≤ i then (rows[i.toNat]?).map .fptr else none := by show (if 1 = 1 ∧ 0 ≤ i then (match rows[i.toNat]? with | some row => some (D.fptr row) | none => none) else none) = _; by_cases h : 0 ≤ i <;> simp [h] <;> cases rows[i.toNat]? <;> rfl
@[simp] theorem ixm22 (o r n : Nat) (i : Int) : dIndexAddr tab ty22 (.msl 1 o r n) (.int .i64 i) = if 0 ≤ i ∧ i < n then some (.ptr o (r + i.toNat) 0) else none := by show (if 1 = 1 ∧ 0 ≤ i ∧ i < n then some (D.ptr o (r + i.toNat) 0) else none) = _; simp
@[simp] theorem ixs22 {α : Type} {f : α → List D} {l : List α} {d : D} (h : SlOf 1 f l d) (i : Int) : dIndexAddr tab ty22 d (.int .i64 i) = if 0 ≤ i then (l[i.toNat]?).map fun p => .fptr (f p) else none := 
  by rcases h with ⟨rfl, rfl⟩ | ⟨b, rfl⟩
     · show none = _; simp
     · rw [ix22]; simp [Function.comp_def]
@[simp] theorem ld5 (c : D) (cs : List D) (h : Hp) : dLoad tab h ty5 (.fptr (c :: cs)) = some c := id rfl
@[simp] theorem ldp5 (h : Hp) (o k f : Nat) : dLoad tab h ty5 (.ptr o k f) = (h.row o k).bind fun row => (row.drop f).head? := by show (match h.row o k with | some row => _ | none => none) = _; cases h.row o k <;> rfl
@[simp] theorem cv5_3 (k : IntKind) (n : Int) : dConv tab ty5 ty3 (.int k n) = some (.int .i64 (IntKind.wrap .i64 n)) := id rfl
theorem wst3 {h : Hp} {o T sz kk off : Nat} {rows : List (List D)} {row : List D} {v : D} (ho : h[o]? = some (.row T sz rows)) (hr : rows[kk]? = some row) (hv : (cells1 v).length = 1) (hl : off + 1 ≤ row.length) (hk : v.okv = true) {β : Type} {f : Hp → Option β} {Q : β → Prop}
    (k : ∀ h', h'[o]? = some (.row T sz (rows.set kk (spl row off (cells1 v)))) → Same o h h' → Wp (f h') Q) : Wp ((dStore tab h ty3 (.ptr o kk off) v).bind f) Q := 
  by rw [show dStore tab h ty3 (.ptr o kk off) v = pSt 1 h (.ptr o kk off) v from rfl]; exact pSt_wp ho hr hv hl hk k
theorem sto3 (h : Hp) (o kk off : Nat) (v : D) : dStore tab h ty3 (.ptr o kk off) v = pSt 1 h (.ptr o kk off) v := id rfl
@[simp] theorem ix1007 (f : Bool) (rows : List (List D)) (i : Int) : dIndexAddr tab ty1007 (.sl 3 f rows) (.int .i64 i) = if 0 ≤ i then (rows[i.toNat]?).map .fptr else none := by show (if 3 = 3 ∧ 0 ≤ i then (match rows[i.toNat]? with | some row => some (D.fptr row) | none => none) else none) = _; by_cases h : 0 ≤ i <;> simp [h] <;> cases rows[i.toNat]? <;> rfl
@[simp] theorem ixm1007 (o r n : Nat) (i : Int) : dIndexAddr tab ty1007 (.msl 3 o r n) (.int .i64 i) = if 0 ≤ i ∧ i < n then some (.ptr o (r + i.toNat) 0) else none := by show (if 3 = 3 ∧ 0 ≤ i ∧ i < n then some (D.ptr o (r + i.toNat) 0) else none) = _; simp
@[simp] theorem ixs1007 {α : Type} {f : α → List D} {l : List α} {d : D} (h : SlOf 3 f l d) (i : Int) : dIndexAddr tab ty1007 d (.int .i64 i) = if 0 ≤ i then (l[i.toNat]?).map fun p => .fptr (f p) else none := 
  by rcases h with ⟨rfl, rfl⟩ | ⟨b, rfl⟩
     · show none = _; simp
     · rw [ix1007]; simp [Function.comp_def]
@[simp] theorem fa1006_2 (c0 c1 c2 : D) (cs : List D) : dFieldAddr tab ty1006 2 (.fptr (c0 :: c1 :: c2 :: cs)) = some (.fptr (c2 :: cs)) := id rfl
@[simp] theorem fap1006_2 (o k f : Nat) : dFieldAddr tab ty1006 2 (.ptr o k f) = some (.ptr o k (f + 2)) := id rfl
@[simp] theorem ix58 (f : Bool) (rows : List (List D)) (i : Int) : dIndexAddr tab ty58 (.sl 3 f rows) (.int .i64 i) = if 0 ≤ i then (rows[i.toNat]?).map .fptr else none := by show (if 3 = 3 ∧ 0 ≤ i then (match rows[i.toNat]? with | some row => some (D.fptr row) | none => none) else none) = _; by_cases h : 0 ≤ i <;> simp [h] <;> cases rows[i.toNat]? <;> rfl
@[simp] theorem ixm58 (o r n : Nat) (i : Int) : dIndexAddr tab ty58 (.msl 3 o r n) (.int .i64 i) = if 0 ≤ i ∧ i < n then some (.ptr o (r + i.toNat) 0) else none := by show (if 3 = 3 ∧ 0 ≤ i ∧ i < n then some (D.ptr o (r + i.toNat) 0) else none) = _; simp
@[simp] theorem ixs58 {α : Type} {f : α → List D} {l : List α} {d : D} (h : SlOf 3 f l d) (i : Int) : dIndexAddr tab ty58 d (.int .i64 i) = if 0 ≤ i then (l[i.toNat]?).map fun p => .fptr (f p) else none := 
  by rcases h with ⟨rfl, rfl⟩ | ⟨b, rfl⟩
     · show none = _; simp
     · rw [ix58]; simp [Function.comp_def]
@[simp] theorem fa106_2 (c0 c1 c2 : D) (cs : List D) : dFieldAddr tab ty106 2 (.fptr (c0 :: c1 :: c2 :: cs)) = some (.fptr (c2 :: cs)) := id rfl
@[simp] theorem fap106_2 (o k f : Nat) : dFieldAddr tab ty106 2 (.ptr o k f) = some (.ptr o k (f + 2)) := id rfl
@[simp] theorem lens58 {α : Type} {f : α → List D} {l : List α} {d : D} (h : SlOf 3 f l d) : dLenT tab ty58 d = some (.int .i64 l.length) := 
  by rcases h with ⟨rfl, rfl⟩ | ⟨b, rfl⟩
     · rfl
     · show some (D.int .i64 ((l.map f).length : Nat)) = _; simp
theorem leno58 {h : Hp} {n0 e z : Nat} {rows : List (List D)} {d : D} (hd : Own h n0 e z rows d) : dLenT tab ty58 d = some (.int .i64 rows.length) := by
  rcases hd with ⟨rfl, rfl⟩ | ⟨o, _, rfl, _⟩ <;> rfl
@[simp] theorem len58 (z : Nat) (f : Bool) (rows : List (List D)) : dLenT tab ty58 (.sl z f rows) = some (.int .i64 rows.length) := id rfl
@[simp] theorem lenm58 (z o r n : Nat) : dLenT tab ty58 (.msl z o r n) = some (.int .i64 n) := id rfl
@[simp] theorem lenn58 : dLenT tab ty58 .nils = some (.int .i64 0) := id rfl
@[simp] theorem fa106_0 (c0 : D) (cs : List D) : dFieldAddr tab ty106 0 (.fptr (c0 :: cs)) = some (.fptr (c0 :: cs)) := id rfl
@[simp] theorem fap106_0 (o k f : Nat) : dFieldAddr tab ty106 0 (.ptr o k f) = some (.ptr o k (f + 0)) := id rfl
@[simp] theorem fa106_1 (c0 c1 : D) (cs : List D) : dFieldAddr tab ty106 1 (.fptr (c0 :: c1 :: cs)) = some (.fptr (c1 :: cs)) := id rfl
@[simp] theorem fap106_1 (o k f : Nat) : dFieldAddr tab ty106 1 (.ptr o k f) = some (.ptr o k (f + 1)) := id rfl
@[simp] theorem fa1053_0 (c0 : D) (cs : List D) : dFieldAddr tab ty1053 0 (.fptr (c0 :: cs)) = some (.fptr (c0 :: cs)) := id rfl
@[simp] theorem fap1053_0 (o k f : Nat) : dFieldAddr tab ty1053 0 (.ptr o k f) = some (.ptr o k (f + 0)) := id rfl
@[simp] theorem fa1053_1 (c0 c1 : D) (cs : List D) : dFieldAddr tab ty1053 1 (.fptr (c0 :: c1 :: cs)) = some (.fptr (c1 :: cs)) := id rfl
@[simp] theorem fap1053_1 (o k f : Nat) : dFieldAddr tab ty1053 1 (.ptr o k f) = some (.ptr o k (f + 1)) := id rfl
@[simp] theorem fa1053_2 (c0 c1 c2 : D) (cs : List D) : dFieldAddr tab ty1053 2 (.fptr (c0 :: c1 :: c2 :: cs)) = some (.fptr (c2 :: cs)) := id rfl
@[simp] theorem fap1053_2 (o k f : Nat) : dFieldAddr tab ty1053 2 (.ptr o k f) = some (.ptr o k (f + 2)) := id rfl
@[simp] theorem ld1051 (c : D) (cs : List D) (h : Hp) : dLoad tab h ty1051 (.fptr (c :: cs)) = some c := id rfl
@[simp] theorem ldp1051 (h : Hp) (o k f : Nat) : dLoad tab h ty1051 (.ptr o k f) = (h.row o k).bind fun row => (row.drop f).head? := by show (match h.row o k with | some row => _ | none => none) = _; cases h.row o k <;> rfl
@[simp] theorem lens1051 {α : Type} {f : α → List D} {l : List α} {d : D} (h : SlOf 2 f l d) : dLenT tab ty1051 d = some (.int .i64 l.length) := 
  by rcases h with ⟨rfl, rfl⟩ | ⟨b, rfl⟩
     · rfl
     · show some (D.int .i64 ((l.map f).length : Nat)) = _; simp
theorem leno1051 {h : Hp} {n0 e z : Nat} {rows : List (List D)} {d : D} (hd : Own h n0 e z rows d) : dLenT tab ty1051 d = some (.int .i64 rows.length) := by
  rcases hd with ⟨rfl, rfl⟩ | ⟨o, _, rfl, _⟩ <;> rfl
@[simp] theorem len1051 (z : Nat) (f : Bool) (rows : List (List D)) : dLenT tab ty1051 (.sl z f rows) = some (.int .i64 rows.length) := id rfl
@[simp] theorem lenm1051 (z o r n : Nat) : dLenT tab ty1051 (.msl z o r n) = some (.int .i64 n) := id rfl
@[simp] theorem lenn1051 : dLenT tab ty1051 .nils = some (.int .i64 0) := id rfl
@[simp] theorem ix1051 (f : Bool) (rows : List (List D)) (i : Int) : dIndexAddr tab ty1051 (.sl 2 f rows) (.int .i64 i) = if 0 ≤ i then (rows[i.toNat]?).map .fptr else none := by show (if 2 = 2 ∧ 0 ≤ i then (match rows[i.toNat]? with | some row => some (D.fptr row) | none => none) else none) = _; by_cases h : 0 ≤ i <;> simp [h] <;> cases rows[i.toNat]? <;> rfl
@[simp] theorem ixm1051 (o r n : Nat) (i : Int) : dIndexAddr tab ty1051 (.msl 2 o r n) (.int .i64 i) = if 0 ≤ i ∧ i < n then some (.ptr o (r + i.toNat) 0) else none := by show (if 2 = 2 ∧ 0 ≤ i ∧ i < n then some (D.ptr o (r + i.toNat) 0) else none) = _; simp
@[simp] theorem ixs1051 {α : Type} {f : α → List D} {l : List α} {d : D} (h : SlOf 2 f l d) (i : Int) : dIndexAddr tab ty1051 d (.int .i64 i) = if 0 ≤ i then (l[i.toNat]?).map fun p => .fptr (f p) else none := 
  by rcases h with ⟨rfl, rfl⟩ | ⟨b, rfl⟩
     · show none = _; simp
     · rw [ix1051]; simp [Function.comp_def]
@[simp] theorem ld1058 (c0 c1 : D) (cs : List D) (h : Hp) : dLoad tab h ty1058 (.fptr (c0 :: c1 :: cs)) = some (.agg [c0, c1]) := id rfl
@[simp] theorem ldp1058 (h : Hp) (o k f : Nat) : dLoad tab h ty1058 (.ptr o k f) = (h.row o k).bind fun row => takeN 2 (row.drop f) := by show (match h.row o k with | some row => _ | none => none) = _; cases h.row o k <;> rfl
@[simp] theorem bneq1058 (a0 b0 : Int) (a1 b1 : Int) : dBin tab .neq ty1058 (.agg [.int .i64 a0, .int .i64 a1]) (.agg [.int .i64 b0, .int .i64 b1]) = some (.bool (!(a0 == b0 && (a1 == b1 && true)))) := id rfl
@[simp] theorem ld1053 (c0 c1 c2 : D) (cs : List D) (h : Hp) : dLoad tab h ty1053 (.fptr (c0 :: c1 :: c2 :: cs)) = some (.agg [c0, c1, c2]) := id rfl
@[simp] theorem ldp1053 (h : Hp) (o k f : Nat) : dLoad tab h ty1053 (.ptr o k f) = (h.row o k).bind fun row => takeN 3 (row.drop f) := by show (match h.row o k with | some row => _ | none => none) = _; cases h.row o k <;> rfl
@[simp] theorem bd1053_0_1 (n0 : Int) (n1 : Int) : dBuild tab ty1053 [0, 1] [.int .i64 n0, .int .i64 n1] = some (.agg [.int .i64 n0, .int .i64 n1, .nils]) := id rfl
theorem wst1053 {h : Hp} {o T sz kk off : Nat} {rows : List (List D)} {row : List D} {v : D} (ho : h[o]? = some (.row T sz rows)) (hr : rows[kk]? = some row) (hv : (cells1 v).length = 3) (hl : off + 3 ≤ row.length) (hk : v.okv = true) {β : Type} {f : Hp → Option β} {Q : β → Prop}
    (k : ∀ h', h'[o]? = some (.row T sz (rows.set kk (spl row off (cells1 v)))) → Same o h h' → Wp (f h') Q) : Wp ((dStore tab h ty1053 (.ptr o kk off) v).bind f) Q := 
  by rw [show dStore tab h ty1053 (.ptr o kk off) v = pSt 3 h (.ptr o kk off) v from rfl]; exact pSt_wp ho hr hv hl hk k
theorem sto1053 (h : Hp) (o kk off : Nat) (v : D) : dStore tab h ty1053 (.ptr o kk off) v = pSt 3 h (.ptr o kk off) v := id rfl
@[simp] theorem lens1007 {α : Type} {f : α → List D} {l : List α} {d : D} (h : SlOf 3 f l d) : dLenT tab ty1007 d = some (.int .i64 l.length) := 
  by rcases h with ⟨rfl, rfl⟩ | ⟨b, rfl⟩
     · rfl
     · show some (D.int .i64 ((l.map f).length : Nat)) = _; simp
theorem leno1007 {h : Hp} {n0 e z : Nat} {rows : List (List D)} {d : D} (hd : Own h n0 e z rows d) : dLenT tab ty1007 d = some (.int .i64 rows.length) := by
  rcases hd with ⟨rfl, rfl⟩ | ⟨o, _, rfl, _⟩ <;> rfl
@[simp] theorem len1007 (z : Nat) (f : Bool) (rows : List (List D)) : dLenT tab ty1007 (.sl z f rows) = some (.int .i64 rows.length) := id rfl
@[simp] theorem lenm1007 (z o r n : Nat) : dLenT tab ty1007 (.msl z o r n) = some (.int .i64 n) := id rfl
@[simp] theorem lenn1007 : dLenT tab ty1007 .nils = some (.int .i64 0) := id rfl
@[simp] theorem ld1006 (c0 c1 c2 : D) (cs : List D) (h : Hp) : dLoad tab h ty1006 (.fptr (c0 :: c1 :: c2 :: cs)) = some (.agg [c0, c1, c2]) := id rfl
@[simp] theorem ldp1006 (h : Hp) (o k f : Nat) : dLoad tab h ty1006 (.ptr o k f) = (h.row o k).bind fun row => takeN 3 (row.drop f) := by show (match h.row o k with | some row => _ | none => none) = _; cases h.row o k <;> rfl
theorem wst1006 {h : Hp} {o T sz kk off : Nat} {rows : List (List D)} {row : List D} {v : D} (ho : h[o]? = some (.row T sz rows)) (hr : rows[kk]? = some row) (hv : (cells1 v).length = 3) (hl : off + 3 ≤ row.length) (hk : v.okv = true) {β : Type} {f : Hp → Option β} {Q : β → Prop}
    (k : ∀ h', h'[o]? = some (.row T sz (rows.set kk (spl row off (cells1 v)))) → Same o h h' → Wp (f h') Q) : Wp ((dStore tab h ty1006 (.ptr o kk off) v).bind f) Q := 
  by rw [show dStore tab h ty1006 (.ptr o kk off) v = pSt 3 h (.ptr o kk off) v from rfl]; exact pSt_wp ho hr hv hl hk k
theorem sto1006 (h : Hp) (o kk off : Nat) (v : D) : dStore tab h ty1006 (.ptr o kk off) v = pSt 3 h (.ptr o kk off) v := id rfl
@[simp] theorem fa1006_0 (c0 : D) (cs : List D) : dFieldAddr tab ty1006 0 (.fptr (c0 :: cs)) = some (.fptr (c0 :: cs)) := id rfl
@[simp] theorem fap1006_0 (o k f : Nat) : dFieldAddr tab ty1006 0 (.ptr o k f) = some (.ptr o k (f + 0)) := id rfl
@[simp] theorem fa1006_1 (c0 c1 : D) (cs : List D) : dFieldAddr tab ty1006 1 (.fptr (c0 :: c1 :: cs)) = some (.fptr (c1 :: cs)) := id rfl
@[simp] theorem fap1006_1 (o k f : Nat) : dFieldAddr tab ty1006 1 (.ptr o k f) = some (.ptr o k (f + 1)) := id rfl
@[simp] theorem bd1058_0_1 (n0 : Int) (n1 : Int) : dBuild tab ty1058 [0, 1] [.int .i64 n0, .int .i64 n1] = some (.agg [.int .i64 n0, .int .i64 n1]) := id rfl
@[simp] theorem bs1051_1 (x0_0 x0_1 : D) : pLitF tab ty1051 1 [0] [.agg [x0_0, x0_1]] = some (.sl 2 true [[x0_0, x0_1]]) := id rfl
theorem wap1051 {h : Hp} {n0 : Nat} (hn0 : n0 ≤ h.length) {rows : List (List D)} {x y : D} (hx : Own h n0 ty1058 2 rows x) {ys : List (List D)} (hy : dRowsOf h 2 y = some ys) (hl : (rows.length + ys.length) * 16 ≤ 140737488355328) {β : Type} {f : D × Hp → Option β} {Q : β → Prop}
    (k : ∀ x' h', Own h' n0 ty1058 2 (rows ++ ys) x' → h.length ≤ h'.length → (∀ q, q < n0 → h'[q]? = h[q]?) → (∀ q, q < h.length → ¬ x.inOb q → h'[q]? = h[q]?) → (∀ q, x'.inOb q → x.inOb q ∨ h.length ≤ q) → Wp (f (x', h')) Q) : Wp ((dAppend tab h ty1051 ty1051 x y).bind f) Q := 
  app_wp (T := tab) (i := ti1051) (j := ti1058) (id rfl) (id rfl) (id rfl) (by decide) hn0 hx hy (lim_ok hl (by omega)) k
theorem wst1051 {h : Hp} {o T sz kk off : Nat} {rows : List (List D)} {row : List D} {v : D} (ho : h[o]? = some (.row T sz rows)) (hr : rows[kk]? = some row) (hv : (cells1 v).length = 1) (hl : off + 1 ≤ row.length) (hk : v.okv = true) {β : Type} {f : Hp → Option β} {Q : β → Prop}
    (k : ∀ h', h'[o]? = some (.row T sz (rows.set kk (spl row off (cells1 v)))) → Same o h h' → Wp (f h') Q) : Wp ((dStore tab h ty1051 (.ptr o kk off) v).bind f) Q := 
  by rw [show dStore tab h ty1051 (.ptr o kk off) v = pSt 1 h (.ptr o kk off) v from rfl]; exact pSt_wp ho hr hv hl hk k
theorem sto1051 (h : Hp) (o kk off : Nat) (v : D) : dStore tab h ty1051 (.ptr o kk off) v = pSt 1 h (.ptr o kk off) v := id rfl
@[simp] theorem ld106 (c0 c1 c2 : D) (cs : List D) (h : Hp) : dLoad tab h ty106 (.fptr (c0 :: c1 :: c2 :: cs)) = some (.agg [c0, c1, c2]) := id rfl
@[simp] theorem ldp106 (h : Hp) (o k f : Nat) : dLoad tab h ty106 (.ptr o k f) = (h.row o k).bind fun row => takeN 3 (row.drop f) := by show (match h.row o k with | some row => _ | none => none) = _; cases h.row o k <;> rfl
@[simp] theorem bneq106 (a0 b0 : Int) (a1 b1 : List UInt8) (a2 b2 : Int) : dBin tab .neq ty106 (.agg [.int .i64 a0, .str a1, .int .i64 a2]) (.agg [.int .i64 b0, .str b1, .int .i64 b2]) = some (.bool (!(a0 == b0 && (a1 == b1 && (a2 == b2 && true))))) := id rfl
@[simp] theorem bd106_0_1 (n0 : Int) (s1 : List UInt8) : dBuild tab ty106 [0, 1] [.int .i64 n0, .str s1] = some (.agg [.int .i64 n0, .str s1, .int .i64 0]) := id rfl
@[simp] theorem bs58_1 (x0_0 x0_1 x0_2 : D) : pLitF tab ty58 1 [0] [.agg [x0_0, x0_1, x0_2]] = some (.sl 3 true [[x0_0, x0_1, x0_2]]) := id rfl
theorem wap58 {h : Hp} {n0 : Nat} (hn0 : n0 ≤ h.length) {rows : List (List D)} {x y : D} (hx : Own h n0 ty106 3 rows x) {ys : List (List D)} (hy : dRowsOf h 3 y = some ys) (hl : (rows.length + ys.length) * 32 ≤ 140737488355328) {β : Type} {f : D × Hp → Option β} {Q : β → Prop}
    (k : ∀ x' h', Own h' n0 ty106 3 (rows ++ ys) x' → h.length ≤ h'.length → (∀ q, q < n0 → h'[q]? = h[q]?) → (∀ q, q < h.length → ¬ x.inOb q → h'[q]? = h[q]?) → (∀ q, x'.inOb q → x.inOb q ∨ h.length ≤ q) → Wp (f (x', h')) Q) : Wp ((dAppend tab h ty58 ty58 x y).bind f) Q := 
  app_wp (T := tab) (i := ti58) (j := ti106) (id rfl) (id rfl) (id rfl) (by decide) hn0 hx hy (lim_ok hl (by omega)) k
@[simp] theorem bd106_0_1_2 (n0 : Int) (s1 : List UInt8) (n2 : Int) : dBuild tab ty106 [0, 1, 2] [.int .i64 n0, .str s1, .int .i64 n2] = some (.agg [.int .i64 n0, .str s1, .int .i64 n2]) := id rfl
theorem sll58 {α : Type} {f : α → List D} {l : List α} {d : D} (hd : SlOf 3 f l d) {k : IntKind} {n : Int} (h0 : 0 ≤ n) (h1 : n ≤ l.length) :
    ∃ d', dSliceAt tab ty58 true false false [d, .int k n] = some d' ∧ SlOf 3 f (l.drop n.toNat) d' := slof_lo (T := tab) (i := ti58) (j := ti106) (id rfl) (id rfl) (id rfl) (id rfl) hd h0 h1
def lt98_37 : List (List UInt8) := [[], [42], [100, 114, 111, 112], [115, 97, 109, 112, 108, 101]]
@[simp] theorem lt98_37_len : lt98_37.length = 4 := id rfl
@[simp] theorem lt98_37_ok : pLitF tab ty98 4 [0, 1, 2, 3] [.str [], .str [42], .str [100, 114, 111, 112], .str [115, 97, 109, 112, 108, 101]] = some (.sl 1 true (lt98_37.map fun s => [.str s])) := id rfl
@[simp] theorem bd1006_0_1 (n0 : Int) (n1 : Int) : dBuild tab ty1006 [0, 1] [.int .i64 n0, .int .i64 n1] = some (.agg [.int .i64 n0, .int .i64 n1, .int .i64 0]) := id rfl
@[simp] theorem bs58_0  : pLitF tab ty58 0 [] [] = some (.sl 3 true []) := id rfl
@[simp] theorem cv3_134 (k : IntKind) (n : Int) : dConv tab ty3 ty134 (.int k n) = some (.int .u64 (IntKind.wrap .u64 n)) := id rfl
@[simp] theorem cv134_3 (k : IntKind) (n : Int) : dConv tab ty134 ty3 (.int k n) = some (.int .i64 (IntKind.wrap .i64 n)) := id rfl
@[simp] theorem bs82_2 (n0 : Int) (n1 : Int) : pLitF tab ty82 2 [0, 1] [.int .i64 n0, .int .i64 n1] = some (.sl 1 true [[.int .i64 n0], [.int .i64 n1]]) := id rfl
theorem slh58 {α : Type} {f : α → List D} {l : List α} {d : D} (hd : SlOf 3 f l d) {k : IntKind} {n : Int} (h0 : 0 ≤ n) (h1 : n ≤ l.length) :
    ∃ d', dSliceAt tab ty58 false true false [d, .int k n] = some d' ∧ SlOf 3 f (l.take n.toNat) d' := slof_hi (T := tab) (i := ti58) (j := ti106) (id rfl) (id rfl) (id rfl) (id rfl) hd h0 h1
theorem wst106 {h : Hp} {o T sz kk off : Nat} {rows : List (List D)} {row : List D} {v : D} (ho : h[o]? = some (.row T sz rows)) (hr : rows[kk]? = some row) (hv : (cells1 v).length = 3) (hl : off + 3 ≤ row.length) (hk : v.okv = true) {β : Type} {f : Hp → Option β} {Q : β → Prop}
    (k : ∀ h', h'[o]? = some (.row T sz (rows.set kk (spl row off (cells1 v)))) → Same o h h' → Wp (f h') Q) : Wp ((dStore tab h ty106 (.ptr o kk off) v).bind f) Q := 
  by rw [show dStore tab h ty106 (.ptr o kk off) v = pSt 3 h (.ptr o kk off) v from rfl]; exact pSt_wp ho hr hv hl hk k
theorem sto106 (h : Hp) (o kk off : Nat) (v : D) : dStore tab h ty106 (.ptr o kk off) v = pSt 3 h (.ptr o kk off) v := id rfl
end Go.Proofs.Ytfjbbeleejnbgaa
