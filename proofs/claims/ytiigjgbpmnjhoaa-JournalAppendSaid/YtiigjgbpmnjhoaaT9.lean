/- Operations at the types of this seat. -/
import Derived.Test.YtiigjgbpmnjhoaaC1
import Derived.Test.YtiigjgbpmnjhoaaPiZ
set_option linter.unusedSimpArgs false
set_option linter.unusedVariables false
set_option linter.unnecessarySimpa false
set_option maxRecDepth 20000
namespace Go.Proofs.Ytiigjgbpmnjhoaa
open Go.Eng Go.Pi
@[simp] theorem lens22 {α : Type} {f : α → List D} {l : List α} {d : D} (h : SlOf 1 f l d) : dLenT tab ty22 d = some (.int .i64 l.length) := 
  by rcases h with ⟨rfl, rfl⟩ | ⟨b, rfl⟩
     · rfl
     · show some (D.int .i64 ((l.map f).length : Nat)) = _; simp
theorem leno22 {h : Hp} {n0 e z : Nat} {rows : List (List D)} {d : D} (hd : Own h n0 e z rows d) : dLenT tab ty22 d = some (.int .i64 rows.length) := by
  rcases hd with ⟨rfl, rfl⟩ | ⟨o, _, rfl, _⟩ <;> rfl
@[simp] theorem len22 (z : Nat) (f : Bool) (rows : List (List D)) : dLenT tab ty22 (.sl z f rows) = some (.int .i64 rows.length) := id rfl
@[simp] theorem lenm22 (z o r n : Nat) : dLenT tab ty22 (.msl z o r n) = some (.int .i64 n) := id rfl
@[simp] theorem lenn22 : dLenT tab ty22 .nils = some (.int .i64 0) := id rfl
def lt22_34 : List Int := [1]
@[simp] theorem lt22_34_len : lt22_34.length = 1 := id rfl
@[simp] theorem lt22_34_ok : pLitF tab ty22 1 [0] [.int .u8 1] = some (.sl 1 true (lt22_34.map fun n => [.int .u8 n])) := id rfl
@[simp] theorem cv3_65 (k : IntKind) (n : Int) : dConv tab ty3 ty65 (.int k n) = some (.int .u32 (IntKind.wrap .u32 n)) := id rfl
@[simp] theorem bs1031_4 (d0 : D) (d1 : D) (d2 : D) (d3 : D) (h0 : d0.one = true) (h1 : d1.one = true) (h2 : d2.one = true) (h3 : d3.one = true) : pLitF tab ty1031 4 [0, 1, 2, 3] [d0, d1, d2, d3] = some (.sl 1 true [[d0], [d1], [d2], [d3]]) := lit_ones (T := tab) (t := ty1031) (n := 4) (i := ti1031) (j := ti22) (id rfl) (id rfl) (id rfl) (id rfl) [d0, d1, d2, d3] rfl (by decide) (by simp [h0, h1, h2, h3])
@[simp] theorem cv3_1029 (k : IntKind) (n : Int) : dConv tab ty3 ty1029 (.int k n) = some (.int .u64 (IntKind.wrap .u64 n)) := id rfl
theorem wap22 {h : Hp} {n0 : Nat} (hn0 : n0 ≤ h.length) {rows : List (List D)} {x y : D} (hx : Own h n0 ty5 1 rows x) {ys : List (List D)} (hy : dRowsOf h 1 y = some ys) (hl : (rows.length + ys.length) * 1 ≤ 140737488355328) {β : Type} {f : D × Hp → Option β} {Q : β → Prop}
    (k : ∀ x' h', Own h' n0 ty5 1 (rows ++ ys) x' → h.length ≤ h'.length → (∀ q, q < n0 → h'[q]? = h[q]?) → (∀ q, q < h.length → ¬ x.inOb q → h'[q]? = h[q]?) → (∀ q, x'.inOb q → x.inOb q ∨ h.length ≤ q) → Wp (f (x', h')) Q) : Wp ((dAppend tab h ty22 ty22 x y).bind f) Q := 
  app_wp (T := tab) (i := ti22) (j := ti5) (id rfl) (id rfl) (id rfl) (by decide) hn0 hx hy (lim_ok hl (by omega)) k
@[simp] theorem cv65_1029 (k : IntKind) (n : Int) : dConv tab ty65 ty1029 (.int k n) = some (.int .u64 (IntKind.wrap .u64 n)) := id rfl
@[simp] theorem ix22 (f : Bool) (rows : List (List D)) (i : Int) : dIndexAddr tab ty22 (.sl 1 f rows) (.int .i64 i) = if 0 ≤ i then (rows[i.toNat]?).map .fptr else none := by show (if 1 = 1 ∧ 0 ≤ i then (match rows[i.toNat]? with | some row => some (D.fptr row) | none => none) else none) = _; by_cases h : 0 ≤ i <;> simp [h] <;> cases rows[i.toNat]? <;> rfl
@[simp] theorem ixm22 (o r n : Nat) (i : Int) : dIndexAddr tab ty22 (.msl 1 o r n) (.int .i64 i) = if 0 ≤ i ∧ i < n then some (.ptr o (r + i.toNat) 0) else none := by show (if 1 = 1 ∧ 0 ≤ i ∧ i < n then some (D.ptr o (r + i.toNat) 0) else none) = _; simp
@[simp] theorem ixs22 {α : Type} {f : α → List D} {l : List α} {d : D} (h : SlOf 1 f l d) (i : Int) : dIndexAddr tab ty22 d (.int .i64 i) = if 0 ≤ i then (l[i.toNat]?).map fun p => .fptr (f p) else none := 
  by rcases h with ⟨rfl, rfl⟩ | ⟨b, rfl⟩
     · show none = _; simp
     · rw [ix22]; simp [Function.comp_def]
@[simp] theorem ld5 (c : D) (cs : List D) (h : Hp) : dLoad tab h ty5 (.fptr (c :: cs)) = some c := id rfl
@[simp] theorem ldp5 (h : Hp) (o k f : Nat) : dLoad tab h ty5 (.ptr o k f) = (h.row o k).bind fun row => (row.drop f).head? := by show (match h.row o k with | some row => _ | none => none) = _; cases h.row o k <;> rfl
@[simp] theorem cv65_5 (k : IntKind) (n : Int) : dConv tab ty65 ty5 (.int k n) = some (.int .u8 (IntKind.wrap .u8 n)) := id rfl
@[simp] theorem bs22_4 (n0 : Int) (n1 : Int) (n2 : Int) (n3 : Int) : pLitF tab ty22 4 [0, 1, 2, 3] [.int .u8 n0, .int .u8 n1, .int .u8 n2, .int .u8 n3] = some (.sl 1 true [[.int .u8 n0], [.int .u8 n1], [.int .u8 n2], [.int .u8 n3]]) := id rfl
@[simp] theorem lens1031 {α : Type} {f : α → List D} {l : List α} {d : D} (h : SlOf 1 f l d) : dLenT tab ty1031 d = some (.int .i64 l.length) := 
  by rcases h with ⟨rfl, rfl⟩ | ⟨b, rfl⟩
     · rfl
     · show some (D.int .i64 ((l.map f).length : Nat)) = _; simp
theorem leno1031 {h : Hp} {n0 e z : Nat} {rows : List (List D)} {d : D} (hd : Own h n0 e z rows d) : dLenT tab ty1031 d = some (.int .i64 rows.length) := by
  rcases hd with ⟨rfl, rfl⟩ | ⟨o, _, rfl, _⟩ <;> rfl
@[simp] theorem len1031 (z : Nat) (f : Bool) (rows : List (List D)) : dLenT tab ty1031 (.sl z f rows) = some (.int .i64 rows.length) := id rfl
@[simp] theorem lenm1031 (z o r n : Nat) : dLenT tab ty1031 (.msl z o r n) = some (.int .i64 n) := id rfl
@[simp] theorem lenn1031 : dLenT tab ty1031 .nils = some (.int .i64 0) := id rfl
@[simp] theorem ix1031 (f : Bool) (rows : List (List D)) (i : Int) : dIndexAddr tab ty1031 (.sl 1 f rows) (.int .i64 i) = if 0 ≤ i then (rows[i.toNat]?).map .fptr else none := by show (if 1 = 1 ∧ 0 ≤ i then (match rows[i.toNat]? with | some row => some (D.fptr row) | none => none) else none) = _; by_cases h : 0 ≤ i <;> simp [h] <;> cases rows[i.toNat]? <;> rfl
@[simp] theorem ixm1031 (o r n : Nat) (i : Int) : dIndexAddr tab ty1031 (.msl 1 o r n) (.int .i64 i) = if 0 ≤ i ∧ i < n then some (.ptr o (r + i.toNat) 0) else none := by show (if 1 = 1 ∧ 0 ≤ i ∧ i < n then some (D.ptr o (r + i.toNat) 0) else none) = _; simp
@[simp] theorem ixs1031 {α : Type} {f : α → List D} {l : List α} {d : D} (h : SlOf 1 f l d) (i : Int) : dIndexAddr tab ty1031 d (.int .i64 i) = if 0 ≤ i then (l[i.toNat]?).map fun p => .fptr (f p) else none := 
  by rcases h with ⟨rfl, rfl⟩ | ⟨b, rfl⟩
     · show none = _; simp
     · rw [ix1031]; simp [Function.comp_def]
@[simp] theorem ld22 (c : D) (cs : List D) (h : Hp) : dLoad tab h ty22 (.fptr (c :: cs)) = some c := id rfl
@[simp] theorem ldp22 (h : Hp) (o k f : Nat) : dLoad tab h ty22 (.ptr o k f) = (h.row o k).bind fun row => (row.drop f).head? := by show (match h.row o k with | some row => _ | none => none) = _; cases h.row o k <;> rfl
@[simp] theorem bs1031_2 (d0 : D) (d1 : D) (h0 : d0.one = true) (h1 : d1.one = true) : pLitF tab ty1031 2 [0, 1] [d0, d1] = some (.sl 1 true [[d0], [d1]]) := lit_ones (T := tab) (t := ty1031) (n := 2) (i := ti1031) (j := ti22) (id rfl) (id rfl) (id rfl) (id rfl) [d0, d1] rfl (by decide) (by simp [h0, h1])
@[simp] theorem cv1029_5 (k : IntKind) (n : Int) : dConv tab ty1029 ty5 (.int k n) = some (.int .u8 (IntKind.wrap .u8 n)) := id rfl
@[simp] theorem bs22_1 (n0 : Int) : pLitF tab ty22 1 [0] [.int .u8 n0] = some (.sl 1 true [[.int .u8 n0]]) := id rfl
@[simp] theorem cv5_65 (k : IntKind) (n : Int) : dConv tab ty5 ty65 (.int k n) = some (.int .u32 (IntKind.wrap .u32 n)) := id rfl
theorem slh22 {α : Type} {f : α → List D} {l : List α} {d : D} (hd : SlOf 1 f l d) {k : IntKind} {n : Int} (h0 : 0 ≤ n) (h1 : n ≤ l.length) :
    ∃ d', dSliceAt tab ty22 false true false [d, .int k n] = some d' ∧ SlOf 1 f (l.take n.toNat) d' := slof_hi (T := tab) (i := ti22) (j := ti5) (id rfl) (id rfl) (id rfl) (id rfl) hd h0 h1
end Go.Proofs.Ytiigjgbpmnjhoaa
