/- Laws of the operations on typed data, and of loops: for the plain proofs. No program is named here. -/
import Derived.Test.YtlpedofpnbggbaaDoorPiX
set_option linter.unusedSimpArgs false
set_option linter.unusedVariables false
set_option linter.unnecessarySimpa false
namespace Go.Pi
open Go.Eng
open Option (bind_some)
@[simp] theorem bs {α β : Type} (a : α) (f : α → Option β) : (some a).bind f = f a := id rfl
@[simp] theorem mkRes_one (d : D) : mkRes [d] = d := id rfl
@[simp] theorem mkRes_two (a b : D) (r : List D) : mkRes (a :: b :: r) = .tup (a :: b :: r) := id rfl
@[simp] theorem dIf_bool {R : Type} (b : Bool) (x y : Option R) : dIf (.bool b) x y = if b = true then x else y := by cases b <;> exact id rfl
@[simp] theorem dUn_not (b : Bool) : dUn .not (.bool b) = some (.bool (!b)) := id rfl
@[simp] theorem dPick_bool (b : Bool) (x y : D) : dPick (.bool b) x y = some (if b = true then x else y) := by cases b <;> exact id rfl
@[simp] theorem gd_bool (b c : Bool) (x : Option D) : gd (.bool b) c x = if b = c then x else some .und := by cases b <;> cases c <;> exact id rfl
@[simp] theorem gd_und (c : Bool) (x : Option D) : gd .und c x = some .und := id rfl
@[simp] theorem gdW_und (c : Bool) (h : Hp) (x : Option (D × Hp)) : gdW .und c h x = some (.und, h) := id rfl
@[simp] theorem gdW_bool (b c : Bool) (h : Hp) (x : Option (D × Hp)) : gdW (.bool b) c h x = if b = c then x else some (.und, h) := by cases b <;> cases c <;> exact id rfl
@[simp] theorem toEnd_nrm {R : Type} (n : Option R) (k : Ex → Option R) : toEnd .nrm n k = n := id rfl
@[simp] theorem toEnd_ret {R : Type} (n : Option R) (k : Ex → Option R) : toEnd .ret n k = k .ret := id rfl
@[simp] theorem toEnd_ext {R : Type} (i : Nat) (n : Option R) (k : Ex → Option R) : toEnd (.ext i) n k = k (.ext i) := id rfl
@[simp] theorem exEnd_nrm {R : Type} (r : Option R) : exEnd .nrm r = r := id rfl
@[simp] theorem exEnd_ret {R : Type} (r : Option R) : exEnd .ret r = r := id rfl
@[simp] theorem unblk_nrm (i : Nat) : unblk i .nrm = .nrm := id rfl
@[simp] theorem unblk_ret (i : Nat) : unblk i .ret = .ret := id rfl
@[simp] theorem unblk_self (i : Nat) : unblk i (.ext i) = .nrm := by simp [-bind_some, unblk]
@[simp] theorem nth_zero (d : D) (r : List D) : nth 0 (d :: r) = d := id rfl
@[simp] theorem nth_succ (k : Nat) (d : D) (r : List D) : nth (k + 1) (d :: r) = nth k r := id rfl
@[simp] theorem chk_true {R : Type} (p : Prop) (x : Option R) (h : p) : chk p x = x := by unfold chk; exact if_pos h
@[simp] theorem callV_some (call : CallF) (f : FuncId) (as xs ys : List D) (h : Hp) : callV call (.fn (.func f) xs ys) as h = call f (xs ++ as ++ ys) h := id rfl
@[simp] theorem pBoxF_str (s : List UInt8) : pBoxF (.str s) = some (.fptr [.str s]) := id rfl
@[simp] theorem pBoxF_int (k : IntKind) (n : Int) : pBoxF (.int k n) = some (.fptr [.int k n]) := id rfl
@[simp] theorem pBoxF_bool (b : Bool) : pBoxF (.bool b) = some (.fptr [.bool b]) := id rfl
@[simp] theorem pBoxF_agg (cs : List D) : pBoxF (.agg cs) = some (.fptr cs) := id rfl
@[simp] theorem pBoxF_nils : pBoxF .nils = some (.fptr [.nils]) := id rfl
@[simp] theorem pBoxF_sl (z : Nat) (f : Bool) (r : List (List D)) : pBoxF (.sl z f r) = some (.fptr [.sl z f r]) := id rfl
section
variable (T : Tab) (t : Nat) (k : IntKind) (a b : Int) (s u : List UInt8) (p q : Bool)
@[simp] theorem dBin_lss : dBin T .lss t (.int k a) (.int k b) = some (.bool (decide (a < b))) := by simp [-bind_some, dBin, dIntBin]
@[simp] theorem dBin_leq : dBin T .leq t (.int k a) (.int k b) = some (.bool (decide (a ≤ b))) := by simp [-bind_some, dBin, dIntBin]
@[simp] theorem dBin_gtr : dBin T .gtr t (.int k a) (.int k b) = some (.bool (decide (b < a))) := by simp [-bind_some, dBin, dIntBin]
@[simp] theorem dBin_geq : dBin T .geq t (.int k a) (.int k b) = some (.bool (decide (b ≤ a))) := by simp [-bind_some, dBin, dIntBin]
@[simp] theorem dBin_eql : dBin T .eql t (.int k a) (.int k b) = some (.bool (decide (a = b))) := by simp [-bind_some, dBin, dIntBin]; rfl
@[simp] theorem dBin_neq : dBin T .neq t (.int k a) (.int k b) = some (.bool (decide (a ≠ b))) := by simp [-bind_some, dBin, dIntBin, bne]; rfl
@[simp] theorem dBin_add : dBin T .add t (.int k a) (.int k b) = some (.int k (k.wrap (a + b))) := by simp [-bind_some, dBin, dIntBin]
@[simp] theorem dBin_sub : dBin T .sub t (.int k a) (.int k b) = some (.int k (k.wrap (a - b))) := by simp [-bind_some, dBin, dIntBin]
@[simp] theorem dBin_mul : dBin T .mul t (.int k a) (.int k b) = some (.int k (k.wrap (a * b))) := by simp [-bind_some, dBin, dIntBin]
@[simp] theorem dBin_quo : dBin T .quo t (.int k a) (.int k b) = if b = 0 then none else some (.int k (k.wrap (a.tdiv b))) := by simp [-bind_some, dBin, dIntBin]
@[simp] theorem dBin_rem : dBin T .rem t (.int k a) (.int k b) = if b = 0 then none else some (.int k (a.tmod b)) := by simp [-bind_some, dBin, dIntBin]
@[simp] theorem dBin_seql : dBin T .eql t (.str s) (.str u) = some (.bool (s == u)) := id rfl
@[simp] theorem dBin_sneq : dBin T .neq t (.str s) (.str u) = some (.bool (!(s == u))) := id rfl
@[simp] theorem dBin_slss : dBin T .lss t (.str s) (.str u) = some (.bool (Op.bytesLess s u)) := id rfl
end
@[simp] theorem boxN_agg (n : Nat) (cs : List D) (h : cs.length = n) : boxN n (.agg cs) = some (.fptr cs) := by subst h; simp [-bind_some, boxN, D.okv, cells1]
@[simp] theorem dExtract_tup (i : Nat) (ds : List D) : dExtract i (.tup ds) = ds[i]? := id rfl
@[simp] theorem dMin_int (k : IntKind) (a b : Int) : dMin (.int k a) (.int k b) = some (.int k (if a ≤ b then a else b)) := by
  first | rfl | (simp [-bind_some, dMin]; done) | (simp only [dMin]; split <;> simp_all [-bind_some] <;> omega)
theorem wrap_i64 {n : Int} (h0 : -9223372036854775808 ≤ n) (h1 : n ≤ 9223372036854775807) : IntKind.wrap .i64 n = n := by
  unfold IntKind.wrap
  simp [-bind_some, IntKind.signed, IntKind.bits, IntKind.min, IntKind.max]
  omega
theorem get_mid {α : Type} (pre : List α) (p : α) (suf : List α) : (pre ++ p :: suf)[pre.length]? = some p := by simp
def SlOf {α : Type} (z : Nat) (f : α → List D) (l : List α) (d : D) : Prop := (d = .nils ∧ l = []) ∨ ∃ full, d = .sl z full (l.map f)
theorem SlOf.nils {α : Type} (z : Nat) (f : α → List D) : SlOf z f [] .nils := .inl ⟨rfl, rfl⟩
theorem SlOf.mk {α : Type} (z : Nat) (f : α → List D) (l : List α) (full : Bool) : SlOf z f l (.sl z full (l.map f)) := .inr ⟨_, rfl⟩
theorem loopW_inv {B : List D → Hp → Option Out} (I : Nat → List D → Hp → Prop) (Post : Ex → List D → Hp → Prop)
    (step : ∀ k ds h, I k ds h → ∃ x ds' h', B ds h = some (x, ds', h') ∧ ((x = .nrm ∧ ∃ k', k' < k ∧ I k' ds' h') ∨ (x ≠ .nrm ∧ Post x ds' h'))) :
    ∀ (k : Nat) (ds : List D) (h : Hp), I k ds h → ∃ x ds' h', loopW B ds h = some (x, ds', h') ∧ Post x ds' h' := by
  intro k
  induction k using Nat.strongRecOn with
  | _ k ih =>
    intro ds h hI
    obtain ⟨x, ds', h', hB, hx⟩ := step k ds h hI
    rw [loopW_eq, hB]
    rcases hx with ⟨rfl, k', hk, hI'⟩ | ⟨hne, hP⟩
    · exact ih k' hk ds' h' hI'
    · refine ⟨x, ds', h', ?_, hP⟩
      cases x with
      | nrm => exact absurd rfl hne
      | ext i => rfl
      | ret => rfl
end Go.Pi
