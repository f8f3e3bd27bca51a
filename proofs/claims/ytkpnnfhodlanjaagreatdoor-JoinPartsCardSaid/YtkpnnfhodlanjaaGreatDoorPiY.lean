/- Laws of the operations on typed data, and of loops: for the plain proofs. No program is named here. -/
import Derived.Test.YtkpnnfhodlanjaaGreatDoorPiX
set_option linter.unusedSimpArgs false
set_option linter.unusedVariables false
set_option linter.unnecessarySimpa false
namespace Go.Pi
open Go.Eng
open Option (bind_some)
@[simp] theorem bs {α β:Type} (a:α) (f:α→Option β):(some a).bind f=f a:=id rfl
@[simp] theorem a0s (d:D):a0m [d]=d:=id rfl
@[simp] theorem a0G (a b:D) (r:List D):a0m (a::b::r) = .tup (a::b::r):=id rfl
@[simp] theorem a0d {R:Type} (b:Bool) (x y:Option R):dIf (.bool b) x y=if b=true then x else y:=by cases b <;> exact id rfl
@[simp] theorem a1f (b:Bool):dUn .not (.bool b)=some (.bool (!b)):=id rfl
@[simp] theorem a0n (b:Bool) (x y:D):a0K (.bool b) x y=some (if b=true then x else y):=by cases b <;> exact id rfl
@[simp] theorem a0x (b c:Bool) (x:Option D):gd (.bool b) c x=if b=c then x else some .und:=by cases b <;> cases c <;> exact id rfl
@[simp] theorem a1a (c:Bool) (x:Option D):gd .und c x=some .und:=id rfl
@[simp] theorem b6J (c:Bool) (h:Hp) (x:Option (D × Hp)):gdW .und c h x=some (.und,h):=id rfl
@[simp] theorem a0F (b c:Bool) (h:Hp) (x:Option (D × Hp)):gdW (.bool b) c h x=if b=c then x else some (.und,h):=by cases b <;> cases c <;> exact id rfl
@[simp] theorem a0j {R:Type} (n:Option R) (k:Ex→Option R):a0y .nrm n k=n:=id rfl
@[simp] theorem a1n {R:Type} (n:Option R) (k:Ex→Option R):a0y .ret n k=k .ret:=id rfl
@[simp] theorem c0S {R:Type} (i:Nat) (n:Option R) (k:Ex→Option R):a0y (.ext i) n k=k (.ext i):=id rfl
@[simp] theorem a1M {R:Type} (r:Option R):a0M .nrm r=r:=id rfl
@[simp] theorem a1i {R:Type} (r:Option R):a0M .ret r=r:=id rfl
@[simp] theorem a0L (i:Nat):a0w i .nrm = .nrm:=id rfl
@[simp] theorem a0U (i:Nat):a0w i .ret = .ret:=id rfl
@[simp] theorem a0o (i:Nat):a0w i (.ext i) = .nrm:=by simp [-bind_some, a0w]
@[simp] theorem a0e (d:D) (r:List D):nth 0 (d::r)=d:=id rfl
@[simp] theorem a0g (k:Nat) (d:D) (r:List D):nth (k+1) (d::r)=nth k r:=id rfl
@[simp] theorem a1j {R:Type} (p:Prop) (x:Option R) (h:p):chk p x=x:=by unfold chk;exact if_pos h
@[simp] theorem a5w (call:a0Z) (f:FuncId) (as xs ys:List D) (h:Hp):a1B call (.fn (.func f) xs ys) as h=call f (xs++as++ys) h:=id rfl
@[simp] theorem c0v (s:List UInt8):a1Z (.str s)=some (.fptr [.str s]):=id rfl
@[simp] theorem c0u (k:IntKind) (n:Int):a1Z (.int k n)=some (.fptr [.int k n]):=id rfl
@[simp] theorem b8b (b:Bool):a1Z (.bool b)=some (.fptr [.bool b]):=id rfl
@[simp] theorem a1l (cs:List D):a1Z (.agg cs)=some (.fptr cs):=id rfl
@[simp] theorem b8c:a1Z .nils=some (.fptr [.nils]):=id rfl
@[simp] theorem c1R (z:Nat) (f:Bool) (r:List (List D)):a1Z (.sl z f r)=some (.fptr [.sl z f r]):=id rfl
section
variable (T:Tab) (t:Nat) (k:IntKind) (a b:Int) (s u:List UInt8) (p q:Bool)
@[simp] theorem a0q:a0f T .lss t (.int k a) (.int k b)=some (.bool (decide (a<b))):=by simp [-bind_some, a0f,a1o]
@[simp] theorem a0Y:a0f T .leq t (.int k a) (.int k b)=some (.bool (decide (a≤b))):=by simp [-bind_some, a0f,a1o]
@[simp] theorem a1e:a0f T .gtr t (.int k a) (.int k b)=some (.bool (decide (b<a))):=by simp [-bind_some, a0f,a1o]
@[simp] theorem a0S:a0f T .geq t (.int k a) (.int k b)=some (.bool (decide (b≤a))):=by simp [-bind_some, a0f,a1o]
@[simp] theorem a0Q:a0f T .eql t (.int k a) (.int k b)=some (.bool (decide (a=b))):=by simp [-bind_some, a0f,a1o];rfl
@[simp] theorem a3k:a0f T .neq t (.int k a) (.int k b)=some (.bool (decide (a≠b))):=by simp [-bind_some, a0f,a1o,bne];rfl
@[simp] theorem a0k:a0f T .add t (.int k a) (.int k b)=some (.int k (k.wrap (a+b))):=by simp [-bind_some, a0f,a1o]
@[simp] theorem a0t:a0f T .sub t (.int k a) (.int k b)=some (.int k (k.wrap (a - b))):=by simp [-bind_some, a0f,a1o]
@[simp] theorem a2i:a0f T .mul t (.int k a) (.int k b)=some (.int k (k.wrap (a*b))):=by simp [-bind_some, a0f,a1o]
@[simp] theorem a1D:a0f T .quo t (.int k a) (.int k b)=if b=0 then none else some (.int k (k.wrap (a.tdiv b))):=by simp [-bind_some, a0f,a1o]
@[simp] theorem a6x:a0f T .rem t (.int k a) (.int k b)=if b=0 then none else some (.int k (a.tmod b)):=by simp [-bind_some, a0f,a1o]
@[simp] theorem a1L:a0f T .eql t (.str s) (.str u)=some (.bool (s==u)):=id rfl
@[simp] theorem b1g:a0f T .neq t (.str s) (.str u)=some (.bool (!(s==u))):=id rfl
@[simp] theorem a2S:a0f T .lss t (.str s) (.str u)=some (.bool (Op.bytesLess s u)):=id rfl
end
@[simp] theorem a6v (n:Nat) (cs:List D) (h:cs.length=n):b0n n (.agg cs)=some (.fptr cs):=by subst h;simp [-bind_some, b0n,D.okv,a0A]
@[simp] theorem a0H (i:Nat) (ds:List D):a0r i (.tup ds)=ds[i]?:=id rfl
@[simp] theorem b3X (k:IntKind) (a b:Int):b5o (.int k a) (.int k b)=some (.int k (if a≤b then a else b)):=by
 first | rfl | (simp [-bind_some, b5o];done) | (simp only [b5o];split <;> simp_all [-bind_some] <;> omega)
theorem wrap_i64 {n:Int} (h0 : -9223372036854775808≤n) (h1:n≤9223372036854775807):IntKind.wrap .i64 n=n:=by
 unfold IntKind.wrap
 simp [-bind_some, IntKind.signed,IntKind.bits,IntKind.min,IntKind.max]
 omega
theorem a4Z {α:Type} (pre:List α) (p:α) (suf:List α):(pre++p::suf)[pre.length]?=some p:=by simp
def SlOf {α:Type} (z:Nat) (f:α→List D) (l:List α) (d:D):Prop:=(d = .nils∧l=[])∨∃ full,d = .sl z full (l.map f)
theorem SlOf.nils {α:Type} (z:Nat) (f:α→List D):SlOf z f [] .nils := .inl ⟨rfl,rfl⟩
theorem SlOf.mk {α:Type} (z:Nat) (f:α→List D) (l:List α) (full:Bool):SlOf z f l (.sl z full (l.map f)) := .inr ⟨_,rfl⟩
theorem b2v {B:List D→Hp→Option Out} (I:Nat→List D→Hp→Prop) (Post:Ex→List D→Hp→Prop)
  (step:∀ k ds h,I k ds h→∃ x ds' h',B ds h=some (x,ds',h')∧((x = .nrm∧∃ k',k'<k∧I k' ds' h')∨(x ≠ .nrm∧Post x ds' h'))) :
  ∀ (k:Nat) (ds:List D) (h:Hp),I k ds h→∃ x ds' h',a0z B ds h=some (x,ds',h')∧Post x ds' h':=by
 intro k
 induction k using Nat.strongRecOn with
 | _ k ih =>
  intro ds h hI
  obtain ⟨x,ds',h',hB,hx⟩:=step k ds h hI
  rw [a1w,hB]
  rcases hx with ⟨rfl,k',hk,hI'⟩ | ⟨hne,hP⟩
  ·exact ih k' hk ds' h' hI'
  ·refine ⟨x,ds',h',?_,hP⟩
   cases x with
   | nrm=>exact absurd rfl hne
   | ext i=>rfl
   | ret=>rfl
end Go.Pi
