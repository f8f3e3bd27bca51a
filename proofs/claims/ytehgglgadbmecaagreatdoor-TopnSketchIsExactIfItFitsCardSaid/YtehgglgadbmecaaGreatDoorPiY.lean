/- Laws of the operations on typed data, and of loops: for the plain proofs. No program is named here. -/
import Derived.Test.YtehgglgadbmecaaGreatDoorPiX
set_option linter.unusedSimpArgs false
set_option linter.unusedVariables false
set_option linter.unnecessarySimpa false
namespace Go.Pi
open Go.Eng
open Option (bind_some)
@[simp] theorem bs {α β:Type} (a:α) (f:α→Option β):(some a).bind f=f a:=id rfl
@[simp] theorem a0r (d:D):a0i [d]=d:=id rfl
@[simp] theorem a2e (a b:D) (r:List D):a0i (a::b::r) = .tup (a::b::r):=id rfl
@[simp] theorem a0f {R:Type} (b:Bool) (x y:Option R):dIf (.bool b) x y=if b=true then x else y:=by cases b <;> exact id rfl
@[simp] theorem a2X (b:Bool):dUn .not (.bool b)=some (.bool (!b)):=id rfl
@[simp] theorem a0F (b:Bool) (x y:D):a1g (.bool b) x y=some (if b=true then x else y):=by cases b <;> exact id rfl
@[simp] theorem a1b (b c:Bool) (x:Option D):gd (.bool b) c x=if b=c then x else some .und:=by cases b <;> cases c <;> exact id rfl
@[simp] theorem b6f (c:Bool) (x:Option D):gd .und c x=some .und:=id rfl
@[simp] theorem c3P (c:Bool) (h:Hp) (x:Option (D × Hp)):gdW .und c h x=some (.und,h):=id rfl
@[simp] theorem a2l (b c:Bool) (h:Hp) (x:Option (D × Hp)):gdW (.bool b) c h x=if b=c then x else some (.und,h):=by cases b <;> cases c <;> exact id rfl
@[simp] theorem a0l {R:Type} (n:Option R) (k:Ex→Option R):a0z .nrm n k=n:=id rfl
@[simp] theorem a3i {R:Type} (n:Option R) (k:Ex→Option R):a0z .ret n k=k .ret:=id rfl
@[simp] theorem c1k {R:Type} (i:Nat) (n:Option R) (k:Ex→Option R):a0z (.ext i) n k=k (.ext i):=id rfl
@[simp] theorem a1F {R:Type} (r:Option R):a0H .nrm r=r:=id rfl
@[simp] theorem a2Y {R:Type} (r:Option R):a0H .ret r=r:=id rfl
@[simp] theorem a0x (i:Nat):a0v i .nrm = .nrm:=id rfl
@[simp] theorem a3j (i:Nat):a0v i .ret = .ret:=id rfl
@[simp] theorem a0m (i:Nat):a0v i (.ext i) = .nrm:=by simp [-bind_some, a0v]
@[simp] theorem a0e (d:D) (r:List D):nth 0 (d::r)=d:=id rfl
@[simp] theorem a0g (k:Nat) (d:D) (r:List D):nth (k+1) (d::r)=nth k r:=id rfl
@[simp] theorem a1l {R:Type} (p:Prop) (x:Option R) (h:p):chk p x=x:=by unfold chk;exact if_pos h
@[simp] theorem a1w (call:a0Q) (f:FuncId) (as xs ys:List D) (h:Hp):a1V call (.fn (.func f) xs ys) as h=call f (xs++as++ys) h:=id rfl
@[simp] theorem c0U (s:List UInt8):a1H (.str s)=some (.fptr [.str s]):=id rfl
@[simp] theorem c0T (k:IntKind) (n:Int):a1H (.int k n)=some (.fptr [.int k n]):=id rfl
@[simp] theorem b8Q (b:Bool):a1H (.bool b)=some (.fptr [.bool b]):=id rfl
@[simp] theorem a1I (cs:List D):a1H (.agg cs)=some (.fptr cs):=id rfl
@[simp] theorem b1f:a1H .nils=some (.fptr [.nils]):=id rfl
@[simp] theorem b5o (z:Nat) (f:Bool) (r:List (List D)):a1H (.sl z f r)=some (.fptr [.sl z f r]):=id rfl
section
variable (T:Tab) (t:Nat) (k:IntKind) (a b:Int) (s u:List UInt8) (p q:Bool)
@[simp] theorem a0n:a0j T .lss t (.int k a) (.int k b)=some (.bool (decide (a<b))):=by simp [-bind_some, a0j,a1f]
@[simp] theorem a2t:a0j T .leq t (.int k a) (.int k b)=some (.bool (decide (a≤b))):=by simp [-bind_some, a0j,a1f]
@[simp] theorem a1m:a0j T .gtr t (.int k a) (.int k b)=some (.bool (decide (b<a))):=by simp [-bind_some, a0j,a1f]
@[simp] theorem a9N:a0j T .geq t (.int k a) (.int k b)=some (.bool (decide (b≤a))):=by simp [-bind_some, a0j,a1f]
@[simp] theorem a0U:a0j T .eql t (.int k a) (.int k b)=some (.bool (decide (a=b))):=by simp [-bind_some, a0j,a1f];rfl
@[simp] theorem a2u:a0j T .neq t (.int k a) (.int k b)=some (.bool (decide (a≠b))):=by simp [-bind_some, a0j,a1f,bne];rfl
@[simp] theorem a0q:a0j T .add t (.int k a) (.int k b)=some (.int k (k.wrap (a+b))):=by simp [-bind_some, a0j,a1f]
@[simp] theorem a0G:a0j T .sub t (.int k a) (.int k b)=some (.int k (k.wrap (a - b))):=by simp [-bind_some, a0j,a1f]
@[simp] theorem a4I:a0j T .mul t (.int k a) (.int k b)=some (.int k (k.wrap (a*b))):=by simp [-bind_some, a0j,a1f]
@[simp] theorem b4J:a0j T .quo t (.int k a) (.int k b)=if b=0 then none else some (.int k (k.wrap (a.tdiv b))):=by simp [-bind_some, a0j,a1f]
@[simp] theorem a9O:a0j T .rem t (.int k a) (.int k b)=if b=0 then none else some (.int k (a.tmod b)):=by simp [-bind_some, a0j,a1f]
@[simp] theorem a7A:a0j T .eql t (.str s) (.str u)=some (.bool (s==u)):=id rfl
@[simp] theorem b1U:a0j T .neq t (.str s) (.str u)=some (.bool (!(s==u))):=id rfl
@[simp] theorem a7B:a0j T .lss t (.str s) (.str u)=some (.bool (Op.bytesLess s u)):=id rfl
end
@[simp] theorem a6x (n:Nat) (cs:List D) (h:cs.length=n):a7s n (.agg cs)=some (.fptr cs):=by subst h;simp [-bind_some, a7s,D.okv,a0u]
@[simp] theorem a1c (i:Nat) (ds:List D):a0D i (.tup ds)=ds[i]?:=id rfl
@[simp] theorem b4L (k:IntKind) (a b:Int):b1o (.int k a) (.int k b)=some (.int k (if a≤b then a else b)):=by
 first | rfl | (simp [-bind_some, b1o];done) | (simp only [b1o];split <;> simp_all [-bind_some] <;> omega)
theorem wrap_i64 {n:Int} (h0 : -9223372036854775808≤n) (h1:n≤9223372036854775807):IntKind.wrap .i64 n=n:=by
 unfold IntKind.wrap
 simp [-bind_some, IntKind.signed,IntKind.bits,IntKind.min,IntKind.max]
 omega
theorem a6M {α:Type} (pre:List α) (p:α) (suf:List α):(pre++p::suf)[pre.length]?=some p:=by simp
def SlOf {α:Type} (z:Nat) (f:α→List D) (l:List α) (d:D):Prop:=(d = .nils∧l=[])∨∃ full,d = .sl z full (l.map f)
theorem SlOf.nils {α:Type} (z:Nat) (f:α→List D):SlOf z f [] .nils := .inl ⟨rfl,rfl⟩
theorem SlOf.mk {α:Type} (z:Nat) (f:α→List D) (l:List α) (full:Bool):SlOf z f l (.sl z full (l.map f)) := .inr ⟨_,rfl⟩
theorem b2Y {B:List D→Hp→Option Out} (I:Nat→List D→Hp→Prop) (Post:Ex→List D→Hp→Prop)
  (step:∀ k ds h,I k ds h→∃ x ds' h',B ds h=some (x,ds',h')∧((x = .nrm∧∃ k',k'<k∧I k' ds' h')∨(x ≠ .nrm∧Post x ds' h'))) :
  ∀ (k:Nat) (ds:List D) (h:Hp),I k ds h→∃ x ds' h',a0B B ds h=some (x,ds',h')∧Post x ds' h':=by
 intro k
 induction k using Nat.strongRecOn with
 | _ k ih =>
  intro ds h hI
  obtain ⟨x,ds',h',hB,hx⟩:=step k ds h hI
  rw [a1i,hB]
  rcases hx with ⟨rfl,k',hk,hI'⟩ | ⟨hne,hP⟩
  ·exact ih k' hk ds' h' hI'
  ·refine ⟨x,ds',h',?_,hP⟩
   cases x with
   | nrm=>exact absurd rfl hne
   | ext i=>rfl
   | ret=>rfl
end Go.Pi
