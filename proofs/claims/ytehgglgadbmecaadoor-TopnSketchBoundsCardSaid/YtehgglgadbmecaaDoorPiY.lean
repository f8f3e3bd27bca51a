/- Laws of the operations on typed data, and of loops: for the plain proofs. No program is named here. -/
import Derived.Test.YtehgglgadbmecaaDoorPiX
set_option linter.unusedSimpArgs false
set_option linter.unusedVariables false
set_option linter.unnecessarySimpa false
namespace Go.Pi
open Go.Eng
open Option (bind_some)
@[simp] theorem bs {α β:Type} (a:α) (f:α→Option β):(some a).bind f=f a:=id rfl
@[simp] theorem a0q (d:D):a0i [d]=d:=id rfl
@[simp] theorem a1U (a b:D) (r:List D):a0i (a::b::r) = .tup (a::b::r):=id rfl
@[simp] theorem a0e {R:Type} (b:Bool) (x y:Option R):dIf (.bool b) x y=if b=true then x else y:=by cases b <;> exact id rfl
@[simp] theorem a3K (b:Bool):dUn .not (.bool b)=some (.bool (!b)):=id rfl
@[simp] theorem a0A (b:Bool) (x y:D):a1s (.bool b) x y=some (if b=true then x else y):=by cases b <;> exact id rfl
@[simp] theorem a0S (b c:Bool) (x:Option D):gd (.bool b) c x=if b=c then x else some .und:=by cases b <;> cases c <;> exact id rfl
@[simp] theorem a9z (c:Bool) (x:Option D):gd .und c x=some .und:=id rfl
@[simp] theorem c1O (c:Bool) (h:Hp) (x:Option (D × Hp)):gdW .und c h x=some (.und,h):=id rfl
@[simp] theorem a3B (b c:Bool) (h:Hp) (x:Option (D × Hp)):gdW (.bool b) c h x=if b=c then x else some (.und,h):=by cases b <;> cases c <;> exact id rfl
@[simp] theorem a0g {R:Type} (n:Option R) (k:Ex→Option R):a0D .nrm n k=n:=id rfl
@[simp] theorem a3G {R:Type} (n:Option R) (k:Ex→Option R):a0D .ret n k=k .ret:=id rfl
@[simp] theorem b9I {R:Type} (i:Nat) (n:Option R) (k:Ex→Option R):a0D (.ext i) n k=k (.ext i):=id rfl
@[simp] theorem a2J {R:Type} (r:Option R):a0N .nrm r=r:=id rfl
@[simp] theorem a3y {R:Type} (r:Option R):a0N .ret r=r:=id rfl
@[simp] theorem a0v (i:Nat):a0z i .nrm = .nrm:=id rfl
@[simp] theorem a3H (i:Nat):a0z i .ret = .ret:=id rfl
@[simp] theorem a0m (i:Nat):a0z i (.ext i) = .nrm:=by simp [-bind_some, a0z]
@[simp] theorem a0d (d:D) (r:List D):nth 0 (d::r)=d:=id rfl
@[simp] theorem a0f (k:Nat) (d:D) (r:List D):nth (k+1) (d::r)=nth k r:=id rfl
@[simp] theorem a1r {R:Type} (p:Prop) (x:Option R) (h:p):chk p x=x:=by unfold chk;exact if_pos h
@[simp] theorem a1D (call:a0M) (f:FuncId) (as xs ys:List D) (h:Hp):a2F call (.fn (.func f) xs ys) as h=call f (xs++as++ys) h:=id rfl
@[simp] theorem b9v (s:List UInt8):a1J (.str s)=some (.fptr [.str s]):=id rfl
@[simp] theorem b9u (k:IntKind) (n:Int):a1J (.int k n)=some (.fptr [.int k n]):=id rfl
@[simp] theorem b7G (b:Bool):a1J (.bool b)=some (.fptr [.bool b]):=id rfl
@[simp] theorem a1z (cs:List D):a1J (.agg cs)=some (.fptr cs):=id rfl
@[simp] theorem b0m:a1J .nils=some (.fptr [.nils]):=id rfl
@[simp] theorem b4c (z:Nat) (f:Bool) (r:List (List D)):a1J (.sl z f r)=some (.fptr [.sl z f r]):=id rfl
section
variable (T:Tab) (t:Nat) (k:IntKind) (a b:Int) (s u:List UInt8) (p q:Bool)
@[simp] theorem a0o:a0l T .lss t (.int k a) (.int k b)=some (.bool (decide (a<b))):=by simp [-bind_some, a0l,a1b]
@[simp] theorem a3u:a0l T .leq t (.int k a) (.int k b)=some (.bool (decide (a≤b))):=by simp [-bind_some, a0l,a1b]
@[simp] theorem a1l:a0l T .gtr t (.int k a) (.int k b)=some (.bool (decide (b<a))):=by simp [-bind_some, a0l,a1b]
@[simp] theorem a8Y:a0l T .geq t (.int k a) (.int k b)=some (.bool (decide (b≤a))):=by simp [-bind_some, a0l,a1b]
@[simp] theorem a0Q:a0l T .eql t (.int k a) (.int k b)=some (.bool (decide (a=b))):=by simp [-bind_some, a0l,a1b];rfl
@[simp] theorem a4n:a0l T .neq t (.int k a) (.int k b)=some (.bool (decide (a≠b))):=by simp [-bind_some, a0l,a1b,bne];rfl
@[simp] theorem a0n:a0l T .add t (.int k a) (.int k b)=some (.int k (k.wrap (a+b))):=by simp [-bind_some, a0l,a1b]
@[simp] theorem a0Y:a0l T .sub t (.int k a) (.int k b)=some (.int k (k.wrap (a - b))):=by simp [-bind_some, a0l,a1b]
@[simp] theorem a5T:a0l T .mul t (.int k a) (.int k b)=some (.int k (k.wrap (a*b))):=by simp [-bind_some, a0l,a1b]
@[simp] theorem b3y:a0l T .quo t (.int k a) (.int k b)=if b=0 then none else some (.int k (k.wrap (a.tdiv b))):=by simp [-bind_some, a0l,a1b]
@[simp] theorem b3z:a0l T .rem t (.int k a) (.int k b)=if b=0 then none else some (.int k (a.tmod b)):=by simp [-bind_some, a0l,a1b]
@[simp] theorem a6P:a0l T .eql t (.str s) (.str u)=some (.bool (s==u)):=id rfl
@[simp] theorem b0V:a0l T .neq t (.str s) (.str u)=some (.bool (!(s==u))):=id rfl
@[simp] theorem a6Q:a0l T .lss t (.str s) (.str u)=some (.bool (Op.bytesLess s u)):=id rfl
end
@[simp] theorem a5P (n:Nat) (cs:List D) (h:cs.length=n):a7L n (.agg cs)=some (.fptr cs):=by subst h;simp [-bind_some, a7L,D.okv,a0t]
@[simp] theorem a1a (i:Nat) (ds:List D):a0B i (.tup ds)=ds[i]?:=id rfl
@[simp] theorem b3A (k:IntKind) (a b:Int):b2U (.int k a) (.int k b)=some (.int k (if a≤b then a else b)):=by
 first | rfl | (simp [-bind_some, b2U];done) | (simp only [b2U];split <;> simp_all [-bind_some] <;> omega)
theorem wrap_i64 {n:Int} (h0 : -9223372036854775808≤n) (h1:n≤9223372036854775807):IntKind.wrap .i64 n=n:=by
 unfold IntKind.wrap
 simp [-bind_some, IntKind.signed,IntKind.bits,IntKind.min,IntKind.max]
 omega
theorem a8b {α:Type} (pre:List α) (p:α) (suf:List α):(pre++p::suf)[pre.length]?=some p:=by simp
def SlOf {α:Type} (z:Nat) (f:α→List D) (l:List α) (d:D):Prop:=(d = .nils∧l=[])∨∃ full,d = .sl z full (l.map f)
theorem SlOf.nils {α:Type} (z:Nat) (f:α→List D):SlOf z f [] .nils := .inl ⟨rfl,rfl⟩
theorem SlOf.mk {α:Type} (z:Nat) (f:α→List D) (l:List α) (full:Bool):SlOf z f l (.sl z full (l.map f)) := .inr ⟨_,rfl⟩
theorem b1Z {B:List D→Hp→Option Out} (I:Nat→List D→Hp→Prop) (Post:Ex→List D→Hp→Prop)
  (step:∀ k ds h,I k ds h→∃ x ds' h',B ds h=some (x,ds',h')∧((x = .nrm∧∃ k',k'<k∧I k' ds' h')∨(x ≠ .nrm∧Post x ds' h'))) :
  ∀ (k:Nat) (ds:List D) (h:Hp),I k ds h→∃ x ds' h',a0F B ds h=some (x,ds',h')∧Post x ds' h':=by
 intro k
 induction k using Nat.strongRecOn with
 | _ k ih =>
  intro ds h hI
  obtain ⟨x,ds',h',hB,hx⟩:=step k ds h hI
  rw [a1t,hB]
  rcases hx with ⟨rfl,k',hk,hI'⟩ | ⟨hne,hP⟩
  ·exact ih k' hk ds' h' hI'
  ·refine ⟨x,ds',h',?_,hP⟩
   cases x with
   | nrm=>exact absurd rfl hne
   | ext i=>rfl
   | ret=>rfl
end Go.Pi
