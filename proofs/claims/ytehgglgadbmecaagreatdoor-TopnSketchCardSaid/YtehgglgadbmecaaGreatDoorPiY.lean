/- Laws of the operations on typed data, and of loops: for the plain proofs. No program is named here. -/
import Derived.Test.YtehgglgadbmecaaGreatDoorPiX
set_option linter.unusedSimpArgs false
set_option linter.unusedVariables false
set_option linter.unnecessarySimpa false
namespace Go.Pi
open Go.Eng
open Option (bind_some)
@[simp] theorem bs {α β:Type} (a:α) (f:α→Option β):(some a).bind f=f a:=id rfl
@[simp] theorem a0o (d:D):a0i [d]=d:=id rfl
@[simp] theorem a2r (a b:D) (r:List D):a0i (a::b::r) = .tup (a::b::r):=id rfl
@[simp] theorem a0f {R:Type} (b:Bool) (x y:Option R):dIf (.bool b) x y=if b=true then x else y:=by cases b <;> exact id rfl
@[simp] theorem a2M (b:Bool):dUn .not (.bool b)=some (.bool (!b)):=id rfl
@[simp] theorem a0B (b:Bool) (x y:D):a1b (.bool b) x y=some (if b=true then x else y):=by cases b <;> exact id rfl
@[simp] theorem a0N (b c:Bool) (x:Option D):gd (.bool b) c x=if b=c then x else some .und:=by cases b <;> cases c <;> exact id rfl
@[simp] theorem a6c (c:Bool) (x:Option D):gd .und c x=some .und:=id rfl
@[simp] theorem a8R (c:Bool) (h:Hp) (x:Option (D × Hp)):gdW .und c h x=some (.und,h):=id rfl
@[simp] theorem a1d (b c:Bool) (h:Hp) (x:Option (D × Hp)):gdW (.bool b) c h x=if b=c then x else some (.und,h):=by cases b <;> cases c <;> exact id rfl
@[simp] theorem a0l {R:Type} (n:Option R) (k:Ex→Option R):a0y .nrm n k=n:=id rfl
@[simp] theorem a2t {R:Type} (n:Option R) (k:Ex→Option R):a0y .ret n k=k .ret:=id rfl
@[simp] theorem c0I {R:Type} (i:Nat) (n:Option R) (k:Ex→Option R):a0y (.ext i) n k=k (.ext i):=id rfl
@[simp] theorem a1I {R:Type} (r:Option R):a0I .nrm r=r:=id rfl
@[simp] theorem a2o {R:Type} (r:Option R):a0I .ret r=r:=id rfl
@[simp] theorem a0F (i:Nat):a0v i .nrm = .nrm:=id rfl
@[simp] theorem a2u (i:Nat):a0v i .ret = .ret:=id rfl
@[simp] theorem a0m (i:Nat):a0v i (.ext i) = .nrm:=by simp [-bind_some, a0v]
@[simp] theorem a0e (d:D) (r:List D):nth 0 (d::r)=d:=id rfl
@[simp] theorem a0h (k:Nat) (d:D) (r:List D):nth (k+1) (d::r)=nth k r:=id rfl
@[simp] theorem a1j {R:Type} (p:Prop) (x:Option R) (h:p):chk p x=x:=by unfold chk;exact if_pos h
@[simp] theorem a1x (call:a0O) (f:FuncId) (as xs ys:List D) (h:Hp):a1X call (.fn (.func f) xs ys) as h=call f (xs++as++ys) h:=id rfl
@[simp] theorem c0n (s:List UInt8):a1J (.str s)=some (.fptr [.str s]):=id rfl
@[simp] theorem c0m (k:IntKind) (n:Int):a1J (.int k n)=some (.fptr [.int k n]):=id rfl
@[simp] theorem b8w (b:Bool):a1J (.bool b)=some (.fptr [.bool b]):=id rfl
@[simp] theorem a2s (cs:List D):a1J (.agg cs)=some (.fptr cs):=id rfl
@[simp] theorem b0Z:a1J .nils=some (.fptr [.nils]):=id rfl
@[simp] theorem b4S (z:Nat) (f:Bool) (r:List (List D)):a1J (.sl z f r)=some (.fptr [.sl z f r]):=id rfl
section
variable (T:Tab) (t:Nat) (k:IntKind) (a b:Int) (s u:List UInt8) (p q:Bool)
@[simp] theorem a0n:a0k T .lss t (.int k a) (.int k b)=some (.bool (decide (a<b))):=by simp [-bind_some, a0k,a1a]
@[simp] theorem a2x:a0k T .leq t (.int k a) (.int k b)=some (.bool (decide (a≤b))):=by simp [-bind_some, a0k,a1a]
@[simp] theorem a1c:a0k T .gtr t (.int k a) (.int k b)=some (.bool (decide (b<a))):=by simp [-bind_some, a0k,a1a]
@[simp] theorem a9W:a0k T .geq t (.int k a) (.int k b)=some (.bool (decide (b≤a))):=by simp [-bind_some, a0k,a1a]
@[simp] theorem a0S:a0k T .eql t (.int k a) (.int k b)=some (.bool (decide (a=b))):=by simp [-bind_some, a0k,a1a];rfl
@[simp] theorem a2d:a0k T .neq t (.int k a) (.int k b)=some (.bool (decide (a≠b))):=by simp [-bind_some, a0k,a1a,bne];rfl
@[simp] theorem a0p:a0k T .add t (.int k a) (.int k b)=some (.int k (k.wrap (a+b))):=by simp [-bind_some, a0k,a1a]
@[simp] theorem a0E:a0k T .sub t (.int k a) (.int k b)=some (.int k (k.wrap (a - b))):=by simp [-bind_some, a0k,a1a]
@[simp] theorem a4H:a0k T .mul t (.int k a) (.int k b)=some (.int k (k.wrap (a*b))):=by simp [-bind_some, a0k,a1a]
@[simp] theorem b4n:a0k T .quo t (.int k a) (.int k b)=if b=0 then none else some (.int k (k.wrap (a.tdiv b))):=by simp [-bind_some, a0k,a1a]
@[simp] theorem b4o:a0k T .rem t (.int k a) (.int k b)=if b=0 then none else some (.int k (a.tmod b)):=by simp [-bind_some, a0k,a1a]
@[simp] theorem a7N:a0k T .eql t (.str s) (.str u)=some (.bool (s==u)):=id rfl
@[simp] theorem b1E:a0k T .neq t (.str s) (.str u)=some (.bool (!(s==u))):=id rfl
@[simp] theorem a4W:a0k T .lss t (.str s) (.str u)=some (.bool (Op.bytesLess s u)):=id rfl
end
@[simp] theorem a6N (n:Nat) (cs:List D) (h:cs.length=n):a8G n (.agg cs)=some (.fptr cs):=by subst h;simp [-bind_some, a8G,D.okv,a0u]
@[simp] theorem a1q (i:Nat) (ds:List D):a0C i (.tup ds)=ds[i]?:=id rfl
@[simp] theorem b4p (k:IntKind) (a b:Int):b1g (.int k a) (.int k b)=some (.int k (if a≤b then a else b)):=by
 first | rfl | (simp [-bind_some, b1g];done) | (simp only [b1g];split <;> simp_all [-bind_some] <;> omega)
theorem wrap_i64 {n:Int} (h0 : -9223372036854775808≤n) (h1:n≤9223372036854775807):IntKind.wrap .i64 n=n:=by
 unfold IntKind.wrap
 simp [-bind_some, IntKind.signed,IntKind.bits,IntKind.min,IntKind.max]
 omega
theorem a8T {α:Type} (pre:List α) (p:α) (suf:List α):(pre++p::suf)[pre.length]?=some p:=by simp
def SlOf {α:Type} (z:Nat) (f:α→List D) (l:List α) (d:D):Prop:=(d = .nils∧l=[])∨∃ full,d = .sl z full (l.map f)
theorem SlOf.nils {α:Type} (z:Nat) (f:α→List D):SlOf z f [] .nils := .inl ⟨rfl,rfl⟩
theorem SlOf.mk {α:Type} (z:Nat) (f:α→List D) (l:List α) (full:Bool):SlOf z f l (.sl z full (l.map f)) := .inr ⟨_,rfl⟩
theorem b2C {B:List D→Hp→Option Out} (I:Nat→List D→Hp→Prop) (Post:Ex→List D→Hp→Prop)
  (step:∀ k ds h,I k ds h→∃ x ds' h',B ds h=some (x,ds',h')∧((x = .nrm∧∃ k',k'<k∧I k' ds' h')∨(x ≠ .nrm∧Post x ds' h'))) :
  ∀ (k:Nat) (ds:List D) (h:Hp),I k ds h→∃ x ds' h',a0z B ds h=some (x,ds',h')∧Post x ds' h':=by
 intro k
 induction k using Nat.strongRecOn with
 | _ k ih =>
  intro ds h hI
  obtain ⟨x,ds',h',hB,hx⟩:=step k ds h hI
  rw [a1e,hB]
  rcases hx with ⟨rfl,k',hk,hI'⟩ | ⟨hne,hP⟩
  ·exact ih k' hk ds' h' hI'
  ·refine ⟨x,ds',h',?_,hP⟩
   cases x with
   | nrm=>exact absurd rfl hne
   | ext i=>rfl
   | ret=>rfl
end Go.Pi
