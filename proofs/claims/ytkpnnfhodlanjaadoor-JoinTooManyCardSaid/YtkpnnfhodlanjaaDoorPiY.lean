/- Laws of the operations on typed data, and of loops: for the plain proofs. No program is named here. -/
import Derived.Test.YtkpnnfhodlanjaaDoorPiX
set_option linter.unusedSimpArgs false
set_option linter.unusedVariables false
set_option linter.unnecessarySimpa false
namespace Go.Pi
open Go.Eng
open Option (bind_some)
@[simp] theorem bs {α β:Type} (a:α) (f:α→Option β):(some a).bind f=f a:=id rfl
@[simp] theorem a0y (d:D):a0s [d]=d:=id rfl
@[simp] theorem a0H (a b:D) (r:List D):a0s (a::b::r) = .tup (a::b::r):=id rfl
@[simp] theorem a0b {R:Type} (b:Bool) (x y:Option R):dIf (.bool b) x y=if b=true then x else y:=by cases b <;> exact id rfl
@[simp] theorem a0Y (b:Bool):dUn .not (.bool b)=some (.bool (!b)):=id rfl
@[simp] theorem a0l (b:Bool) (x y:D):a0S (.bool b) x y=some (if b=true then x else y):=by cases b <;> exact id rfl
@[simp] theorem a0u (b c:Bool) (x:Option D):gd (.bool b) c x=if b=c then x else some .und:=by cases b <;> cases c <;> exact id rfl
@[simp] theorem a1n (c:Bool) (x:Option D):gd .und c x=some .und:=id rfl
@[simp] theorem b2k (c:Bool) (h:Hp) (x:Option (D × Hp)):gdW .und c h x=some (.und,h):=id rfl
@[simp] theorem a0w (b c:Bool) (h:Hp) (x:Option (D × Hp)):gdW (.bool b) c h x=if b=c then x else some (.und,h):=by cases b <;> cases c <;> exact id rfl
@[simp] theorem a0p {R:Type} (n:Option R) (k:Ex→Option R):a0A .nrm n k=n:=id rfl
@[simp] theorem a1L {R:Type} (n:Option R) (k:Ex→Option R):a0A .ret n k=k .ret:=id rfl
@[simp] theorem b5b {R:Type} (i:Nat) (n:Option R) (k:Ex→Option R):a0A (.ext i) n k=k (.ext i):=id rfl
@[simp] theorem a1j {R:Type} (r:Option R):a0M .nrm r=r:=id rfl
@[simp] theorem a1r {R:Type} (r:Option R):a0M .ret r=r:=id rfl
@[simp] theorem a1b (i:Nat):a0t i .nrm = .nrm:=id rfl
@[simp] theorem a0Q (i:Nat):a0t i .ret = .ret:=id rfl
@[simp] theorem a0o (i:Nat):a0t i (.ext i) = .nrm:=by simp [-bind_some, a0t]
@[simp] theorem a0g (d:D) (r:List D):nth 0 (d::r)=d:=id rfl
@[simp] theorem a0i (k:Nat) (d:D) (r:List D):nth (k+1) (d::r)=nth k r:=id rfl
@[simp] theorem a2r {R:Type} (p:Prop) (x:Option R) (h:p):chk p x=x:=by unfold chk;exact if_pos h
@[simp] theorem a3S (call:a0F) (f:FuncId) (as xs ys:List D) (h:Hp):a0W call (.fn (.func f) xs ys) as h=call f (xs++as++ys) h:=id rfl
@[simp] theorem b4N (s:List UInt8):a2E (.str s)=some (.fptr [.str s]):=id rfl
@[simp] theorem b4M (k:IntKind) (n:Int):a2E (.int k n)=some (.fptr [.int k n]):=id rfl
@[simp] theorem b3k (b:Bool):a2E (.bool b)=some (.fptr [.bool b]):=id rfl
@[simp] theorem a2S (cs:List D):a2E (.agg cs)=some (.fptr cs):=id rfl
@[simp] theorem b3l:a2E .nils=some (.fptr [.nils]):=id rfl
@[simp] theorem b5O (z:Nat) (f:Bool) (r:List (List D)):a2E (.sl z f r)=some (.fptr [.sl z f r]):=id rfl
section
variable (T:Tab) (t:Nat) (k:IntKind) (a b:Int) (s u:List UInt8) (p q:Bool)
@[simp] theorem a0r:a0h T .lss t (.int k a) (.int k b)=some (.bool (decide (a<b))):=by simp [-bind_some, a0h,a0L]
@[simp] theorem a0O:a0h T .leq t (.int k a) (.int k b)=some (.bool (decide (a≤b))):=by simp [-bind_some, a0h,a0L]
@[simp] theorem a1c:a0h T .gtr t (.int k a) (.int k b)=some (.bool (decide (b<a))):=by simp [-bind_some, a0h,a0L]
@[simp] theorem a0E:a0h T .geq t (.int k a) (.int k b)=some (.bool (decide (b≤a))):=by simp [-bind_some, a0h,a0L]
@[simp] theorem a1z:a0h T .eql t (.int k a) (.int k b)=some (.bool (decide (a=b))):=by simp [-bind_some, a0h,a0L];rfl
@[simp] theorem b5D:a0h T .neq t (.int k a) (.int k b)=some (.bool (decide (a≠b))):=by simp [-bind_some, a0h,a0L,bne];rfl
@[simp] theorem a0k:a0h T .add t (.int k a) (.int k b)=some (.int k (k.wrap (a+b))):=by simp [-bind_some, a0h,a0L]
@[simp] theorem a0n:a0h T .sub t (.int k a) (.int k b)=some (.int k (k.wrap (a - b))):=by simp [-bind_some, a0h,a0L]
@[simp] theorem a1A:a0h T .mul t (.int k a) (.int k b)=some (.int k (k.wrap (a*b))):=by simp [-bind_some, a0h,a0L]
@[simp] theorem a1B:a0h T .quo t (.int k a) (.int k b)=if b=0 then none else some (.int k (k.wrap (a.tdiv b))):=by simp [-bind_some, a0h,a0L]
@[simp] theorem a6Y:a0h T .rem t (.int k a) (.int k b)=if b=0 then none else some (.int k (a.tmod b)):=by simp [-bind_some, a0h,a0L]
@[simp] theorem a8n:a0h T .eql t (.str s) (.str u)=some (.bool (s==u)):=id rfl
@[simp] theorem a8o:a0h T .neq t (.str s) (.str u)=some (.bool (!(s==u))):=id rfl
@[simp] theorem a5z:a0h T .lss t (.str s) (.str u)=some (.bool (Op.bytesLess s u)):=id rfl
end
@[simp] theorem a6S (n:Nat) (cs:List D) (h:cs.length=n):a8f n (.agg cs)=some (.fptr cs):=by subst h;simp [-bind_some, a8f,D.okv,a0z]
@[simp] theorem a0K (i:Nat) (ds:List D):a0x i (.tup ds)=ds[i]?:=id rfl
@[simp] theorem b5E (k:IntKind) (a b:Int):b3e (.int k a) (.int k b)=some (.int k (if a≤b then a else b)):=by
 first | rfl | (simp [-bind_some, b3e];done) | (simp only [b3e];split <;> simp_all [-bind_some] <;> omega)
theorem wrap_i64 {n:Int} (h0 : -9223372036854775808≤n) (h1:n≤9223372036854775807):IntKind.wrap .i64 n=n:=by
 unfold IntKind.wrap
 simp [-bind_some, IntKind.signed,IntKind.bits,IntKind.min,IntKind.max]
 omega
theorem a4U {α:Type} (pre:List α) (p:α) (suf:List α):(pre++p::suf)[pre.length]?=some p:=by simp
def SlOf {α:Type} (z:Nat) (f:α→List D) (l:List α) (d:D):Prop:=(d = .nils∧l=[])∨∃ full,d = .sl z full (l.map f)
theorem SlOf.nils {α:Type} (z:Nat) (f:α→List D):SlOf z f [] .nils := .inl ⟨rfl,rfl⟩
theorem SlOf.mk {α:Type} (z:Nat) (f:α→List D) (l:List α) (full:Bool):SlOf z f l (.sl z full (l.map f)) := .inr ⟨_,rfl⟩
theorem a9k {B:List D→Hp→Option Out} (I:Nat→List D→Hp→Prop) (Post:Ex→List D→Hp→Prop)
  (step:∀ k ds h,I k ds h→∃ x ds' h',B ds h=some (x,ds',h')∧((x = .nrm∧∃ k',k'<k∧I k' ds' h')∨(x ≠ .nrm∧Post x ds' h'))) :
  ∀ (k:Nat) (ds:List D) (h:Hp),I k ds h→∃ x ds' h',a0v B ds h=some (x,ds',h')∧Post x ds' h':=by
 intro k
 induction k using Nat.strongRecOn with
 | _ k ih =>
  intro ds h hI
  obtain ⟨x,ds',h',hB,hx⟩:=step k ds h hI
  rw [a1C,hB]
  rcases hx with ⟨rfl,k',hk,hI'⟩ | ⟨hne,hP⟩
  ·exact ih k' hk ds' h' hI'
  ·refine ⟨x,ds',h',?_,hP⟩
   cases x with
   | nrm=>exact absurd rfl hne
   | ext i=>rfl
   | ret=>rfl
end Go.Pi
