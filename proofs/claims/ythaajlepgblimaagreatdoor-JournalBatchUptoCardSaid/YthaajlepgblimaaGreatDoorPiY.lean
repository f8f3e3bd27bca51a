/- Laws of the operations on typed data, and of loops: for the plain proofs. No program is named here. -/
import Derived.Test.YthaajlepgblimaaGreatDoorPiX
set_option linter.unusedSimpArgs false
set_option linter.unusedVariables false
set_option linter.unnecessarySimpa false
namespace Go.Pi
open Go.Eng
open Option (bind_some)
@[simp] theorem bs {α β : Type} (a : α) (f : α → Option β) : (some a).bind f = f a := id rfl
@[simp] theorem a0g (d : D) : a0i [d] = d := id rfl
@[simp] theorem a0S (a b : D) (r : List D) : a0i (a :: b :: r) = .tup (a :: b :: r) := id rfl
@[simp] theorem a0d {R : Type} (b : Bool) (x y : Option R) : dIf (.bool b) x y = if b = true then x else y := by cases b <;> exact id rfl
@[simp] theorem a1m (b : Bool) : dUn .not (.bool b) = some (.bool (!b)) := id rfl
@[simp] theorem a0e (b : Bool) (x y : D) : a0M (.bool b) x y = some (if b = true then x else y) := by cases b <;> exact id rfl
@[simp] theorem a0r (b c : Bool) (x : Option D) : gd (.bool b) c x = if b = c then x else some .und := by cases b <;> cases c <;> exact id rfl
@[simp] theorem a1f (c : Bool) (x : Option D) : gd .und c x = some .und := id rfl
@[simp] theorem a3T (c : Bool) (h : Hp) (x : Option (D × Hp)) : gdW .und c h x = some (.und, h) := id rfl
@[simp] theorem a0W (b c : Bool) (h : Hp) (x : Option (D × Hp)) : gdW (.bool b) c h x = if b = c then x else some (.und, h) := by cases b <;> cases c <;> exact id rfl
@[simp] theorem a0o {R : Type} (n : Option R) (k : Ex → Option R) : a0Q .nrm n k = n := id rfl
@[simp] theorem a1I {R : Type} (n : Option R) (k : Ex → Option R) : a0Q .ret n k = k .ret := id rfl
@[simp] theorem b8f {R : Type} (i : Nat) (n : Option R) (k : Ex → Option R) : a0Q (.ext i) n k = k (.ext i) := id rfl
@[simp] theorem a2E {R : Type} (r : Option R) : a1a .nrm r = r := id rfl
@[simp] theorem a1H {R : Type} (r : Option R) : a1a .ret r = r := id rfl
@[simp] theorem a1t (i : Nat) : a0L i .nrm = .nrm := id rfl
@[simp] theorem a1J (i : Nat) : a0L i .ret = .ret := id rfl
@[simp] theorem a0l (i : Nat) : a0L i (.ext i) = .nrm := by simp [-bind_some, a0L]
@[simp] theorem a0f (d : D) (r : List D) : nth 0 (d :: r) = d := id rfl
@[simp] theorem a0n (k : Nat) (d : D) (r : List D) : nth (k + 1) (d :: r) = nth k r := id rfl
@[simp] theorem a1D {R : Type} (p : Prop) (x : Option R) (h : p) : chk p x = x := by unfold chk; exact if_pos h
@[simp] theorem a6g (call : a1y) (f : FuncId) (as xs ys : List D) (h : Hp) : a4m call (.fn (.func f) xs ys) as h = call f (xs ++ as ++ ys) h := id rfl
@[simp] theorem c5G (s : List UInt8) : a2p (.str s) = some (.fptr [.str s]) := id rfl
@[simp] theorem c5F (k : IntKind) (n : Int) : a2p (.int k n) = some (.fptr [.int k n]) := id rfl
@[simp] theorem c2T (b : Bool) : a2p (.bool b) = some (.fptr [.bool b]) := id rfl
@[simp] theorem a1b (cs : List D) : a2p (.agg cs) = some (.fptr cs) := id rfl
@[simp] theorem c2U : a2p .nils = some (.fptr [.nils]) := id rfl
@[simp] theorem c7b (z : Nat) (f : Bool) (r : List (List D)) : a2p (.sl z f r) = some (.fptr [.sl z f r]) := id rfl
section
variable (T : Tab) (t : Nat) (k : IntKind) (a b : Int) (s u : List UInt8) (p q : Bool)
@[simp] theorem a0j : a0k T .lss t (.int k a) (.int k b) = some (.bool (decide (a < b))) := by simp [-bind_some, a0k, a1Q]
@[simp] theorem a1E : a0k T .leq t (.int k a) (.int k b) = some (.bool (decide (a ≤ b))) := by simp [-bind_some, a0k, a1Q]
@[simp] theorem a0v : a0k T .gtr t (.int k a) (.int k b) = some (.bool (decide (b < a))) := by simp [-bind_some, a0k, a1Q]
@[simp] theorem a2U : a0k T .geq t (.int k a) (.int k b) = some (.bool (decide (b ≤ a))) := by simp [-bind_some, a0k, a1Q]
@[simp] theorem a0R : a0k T .eql t (.int k a) (.int k b) = some (.bool (decide (a = b))) := by simp [-bind_some, a0k, a1Q]; rfl
@[simp] theorem a0t : a0k T .neq t (.int k a) (.int k b) = some (.bool (decide (a ≠ b))) := by simp [-bind_some, a0k, a1Q, bne]; rfl
@[simp] theorem a0u : a0k T .add t (.int k a) (.int k b) = some (.int k (k.wrap (a + b))) := by simp [-bind_some, a0k, a1Q]
@[simp] theorem a0B : a0k T .sub t (.int k a) (.int k b) = some (.int k (k.wrap (a - b))) := by simp [-bind_some, a0k, a1Q]
@[simp] theorem a3j : a0k T .mul t (.int k a) (.int k b) = some (.int k (k.wrap (a * b))) := by simp [-bind_some, a0k, a1Q]
@[simp] theorem b2K : a0k T .quo t (.int k a) (.int k b) = if b = 0 then none else some (.int k (k.wrap (a.tdiv b))) := by simp [-bind_some, a0k, a1Q]
@[simp] theorem a3R : a0k T .rem t (.int k a) (.int k b) = if b = 0 then none else some (.int k (a.tmod b)) := by simp [-bind_some, a0k, a1Q]
@[simp] theorem a2c : a0k T .eql t (.str s) (.str u) = some (.bool (s == u)) := id rfl
@[simp] theorem a1U : a0k T .neq t (.str s) (.str u) = some (.bool (!(s == u))) := id rfl
@[simp] theorem c4G : a0k T .lss t (.str s) (.str u) = some (.bool (Op.bytesLess s u)) := id rfl
end
@[simp] theorem a3i (n : Nat) (cs : List D) (h : cs.length = n) : a6t n (.agg cs) = some (.fptr cs) := by subst h; simp [-bind_some, a6t, D.okv, a0z]
@[simp] theorem a0A (i : Nat) (ds : List D) : a0p i (.tup ds) = ds[i]? := id rfl
@[simp] theorem b2O (k : IntKind) (a b : Int) : b8p (.int k a) (.int k b) = some (.int k (if a ≤ b then a else b)) := by
 first | rfl | (simp [-bind_some, b8p]; done) | (simp only [b8p]; split <;> simp_all [-bind_some] <;> omega)
theorem wrap_i64 {n : Int} (h0 : -9223372036854775808 ≤ n) (h1 : n ≤ 9223372036854775807) : IntKind.wrap .i64 n = n := by
 unfold IntKind.wrap
 simp [-bind_some, IntKind.signed, IntKind.bits, IntKind.min, IntKind.max]
 omega
theorem b1B {α : Type} (pre : List α) (p : α) (suf : List α) : (pre ++ p :: suf)[pre.length]? = some p := by simp
def SlOf {α : Type} (z : Nat) (f : α → List D) (l : List α) (d : D) : Prop := (d = .nils ∧ l = []) ∨ ∃ full, d = .sl z full (l.map f)
theorem SlOf.nils {α : Type} (z : Nat) (f : α → List D) : SlOf z f [] .nils := .inl ⟨rfl, rfl⟩
theorem SlOf.mk {α : Type} (z : Nat) (f : α → List D) (l : List α) (full : Bool) : SlOf z f l (.sl z full (l.map f)) := .inr ⟨_, rfl⟩
theorem b6P {B : List D → Hp → Option Out} (I : Nat → List D → Hp → Prop) (Post : Ex → List D → Hp → Prop)
  (step : ∀ k ds h, I k ds h → ∃ x ds' h', B ds h = some (x, ds', h') ∧ ((x = .nrm ∧ ∃ k', k' < k ∧ I k' ds' h') ∨ (x ≠ .nrm ∧ Post x ds' h'))) :
  ∀ (k : Nat) (ds : List D) (h : Hp), I k ds h → ∃ x ds' h', a0I B ds h = some (x, ds', h') ∧ Post x ds' h' := by
 intro k
 induction k using Nat.strongRecOn with
 | _ k ih =>
  intro ds h hI
  obtain ⟨x, ds', h', hB, hx⟩ := step k ds h hI
  rw [a1F, hB]
  rcases hx with ⟨rfl, k', hk, hI'⟩ | ⟨hne, hP⟩
  ·exact ih k' hk ds' h' hI'
  ·refine ⟨x, ds', h', ?_, hP⟩
   cases x with
   | nrm => exact absurd rfl hne
   | ext i => rfl
   | ret => rfl
end Go.Pi
