/- Laws of the operations on typed data, and of loops: for the plain proofs. No program is named here. -/
import Derived.Test.YtjmndhbabkjebaaGreatDoorPiX
set_option linter.unusedSimpArgs false
set_option linter.unusedVariables false
set_option linter.unnecessarySimpa false
namespace Go.Pi
open Go.Eng
open Option (bind_some)
@[simp] theorem bs {α β:Type} (a:α) (f:α→Option β):(some a).bind f=f a:=id rfl
@[simp] theorem a0j (d:D):a0k [d]=d:=id rfl
@[simp] theorem a1c (a b:D) (r:List D):a0k (a::b::r) = .tup (a::b::r):=id rfl
@[simp] theorem a0d {R:Type} (b:Bool) (x y:Option R):dIf (.bool b) x y=if b=true then x else y:=by cases b <;> exact id rfl
@[simp] theorem a1C (b:Bool):dUn .not (.bool b)=some (.bool (!b)):=id rfl
@[simp] theorem a0e (b:Bool) (x y:D):a0O (.bool b) x y=some (if b=true then x else y):=by cases b <;> exact id rfl
@[simp] theorem a0o (b c:Bool) (x:Option D):gd (.bool b) c x=if b=c then x else some .und:=by cases b <;> cases c <;> exact id rfl
@[simp] theorem a1q (c:Bool) (x:Option D):gd .und c x=some .und:=id rfl
@[simp] theorem a5Q (c:Bool) (h:Hp) (x:Option (D × Hp)):gdW .und c h x=some (.und,h):=id rfl
@[simp] theorem a1g (b c:Bool) (h:Hp) (x:Option (D × Hp)):gdW (.bool b) c h x=if b=c then x else some (.und,h):=by cases b <;> cases c <;> exact id rfl
@[simp] theorem a0s {R:Type} (n:Option R) (k:Ex→Option R):a0Y .nrm n k=n:=id rfl
@[simp] theorem a1N {R:Type} (n:Option R) (k:Ex→Option R):a0Y .ret n k=k .ret:=id rfl
@[simp] theorem c8s {R:Type} (i:Nat) (n:Option R) (k:Ex→Option R):a0Y (.ext i) n k=k (.ext i):=id rfl
@[simp] theorem a2S {R:Type} (r:Option R):a0Z .nrm r=r:=id rfl
@[simp] theorem a1L {R:Type} (r:Option R):a0Z .ret r=r:=id rfl
@[simp] theorem a2p (i:Nat):a0T i .nrm = .nrm:=id rfl
@[simp] theorem a1O (i:Nat):a0T i .ret = .ret:=id rfl
@[simp] theorem a0r (i:Nat):a0T i (.ext i) = .nrm:=by simp [-bind_some, a0T]
@[simp] theorem a0g (d:D) (r:List D):nth 0 (d::r)=d:=id rfl
@[simp] theorem a0q (k:Nat) (d:D) (r:List D):nth (k+1) (d::r)=nth k r:=id rfl
@[simp] theorem a1H {R:Type} (p:Prop) (x:Option R) (h:p):chk p x=x:=by unfold chk;exact if_pos h
@[simp] theorem a6M (call:a1A) (f:FuncId) (as xs ys:List D) (h:Hp):a4H call (.fn (.func f) xs ys) as h=call f (xs++as++ys) h:=id rfl
@[simp] theorem c7I (s:List UInt8):a2R (.str s)=some (.fptr [.str s]):=id rfl
@[simp] theorem c7H (k:IntKind) (n:Int):a2R (.int k n)=some (.fptr [.int k n]):=id rfl
@[simp] theorem c4M (b:Bool):a2R (.bool b)=some (.fptr [.bool b]):=id rfl
@[simp] theorem a1M (cs:List D):a2R (.agg cs)=some (.fptr cs):=id rfl
@[simp] theorem c4N:a2R .nils=some (.fptr [.nils]):=id rfl
@[simp] theorem c8T (z:Nat) (f:Bool) (r:List (List D)):a2R (.sl z f r)=some (.fptr [.sl z f r]):=id rfl
section
variable (T:Tab) (t:Nat) (k:IntKind) (a b:Int) (s u:List UInt8) (p q:Bool)
@[simp] theorem a0n:a0m T .lss t (.int k a) (.int k b)=some (.bool (decide (a<b))):=by simp [-bind_some, a0m,a2h]
@[simp] theorem a1S:a0m T .leq t (.int k a) (.int k b)=some (.bool (decide (a≤b))):=by simp [-bind_some, a0m,a2h]
@[simp] theorem a0u:a0m T .gtr t (.int k a) (.int k b)=some (.bool (decide (b<a))):=by simp [-bind_some, a0m,a2h]
@[simp] theorem a3x:a0m T .geq t (.int k a) (.int k b)=some (.bool (decide (b≤a))):=by simp [-bind_some, a0m,a2h]
@[simp] theorem a0Q:a0m T .eql t (.int k a) (.int k b)=some (.bool (decide (a=b))):=by simp [-bind_some, a0m,a2h];rfl
@[simp] theorem a0w:a0m T .neq t (.int k a) (.int k b)=some (.bool (decide (a≠b))):=by simp [-bind_some, a0m,a2h,bne];rfl
@[simp] theorem a0t:a0m T .add t (.int k a) (.int k b)=some (.int k (k.wrap (a+b))):=by simp [-bind_some, a0m,a2h]
@[simp] theorem a0D:a0m T .sub t (.int k a) (.int k b)=some (.int k (k.wrap (a - b))):=by simp [-bind_some, a0m,a2h]
@[simp] theorem a2D:a0m T .mul t (.int k a) (.int k b)=some (.int k (k.wrap (a*b))):=by simp [-bind_some, a0m,a2h]
@[simp] theorem b3M:a0m T .quo t (.int k a) (.int k b)=if b=0 then none else some (.int k (k.wrap (a.tdiv b))):=by simp [-bind_some, a0m,a2h]
@[simp] theorem a3j:a0m T .rem t (.int k a) (.int k b)=if b=0 then none else some (.int k (a.tmod b)):=by simp [-bind_some, a0m,a2h]
@[simp] theorem a2H:a0m T .eql t (.str s) (.str u)=some (.bool (s==u)):=id rfl
@[simp] theorem a2e:a0m T .neq t (.str s) (.str u)=some (.bool (!(s==u))):=id rfl
@[simp] theorem c6D:a0m T .lss t (.str s) (.str u)=some (.bool (Op.bytesLess s u)):=id rfl
end
@[simp] theorem a1T (n:Nat) (cs:List D) (h:cs.length=n):a3s n (.agg cs)=some (.fptr cs):=by subst h;simp [-bind_some, a3s,D.okv,a0B]
@[simp] theorem a0J (i:Nat) (ds:List D):a0i i (.tup ds)=ds[i]?:=id rfl
@[simp] theorem c8C (k:IntKind) (a b:Int):c4H (.int k a) (.int k b)=some (.int k (if a≤b then a else b)):=by
 first | rfl | (simp [-bind_some, c4H];done) | (simp only [c4H];split <;> simp_all [-bind_some] <;> omega)
theorem wrap_i64 {n:Int} (h0 : -9223372036854775808≤n) (h1:n≤9223372036854775807):IntKind.wrap .i64 n=n:=by
 unfold IntKind.wrap
 simp [-bind_some, IntKind.signed,IntKind.bits,IntKind.min,IntKind.max]
 omega
theorem b2u {α:Type} (pre:List α) (p:α) (suf:List α):(pre++p::suf)[pre.length]?=some p:=by simp
def SlOf {α:Type} (z:Nat) (f:α→List D) (l:List α) (d:D):Prop:=(d = .nils∧l=[])∨∃ full,d = .sl z full (l.map f)
theorem SlOf.nils {α:Type} (z:Nat) (f:α→List D):SlOf z f [] .nils := .inl ⟨rfl,rfl⟩
theorem SlOf.mk {α:Type} (z:Nat) (f:α→List D) (l:List α) (full:Bool):SlOf z f l (.sl z full (l.map f)) := .inr ⟨_,rfl⟩
theorem b8g {B:List D→Hp→Option Out} (I:Nat→List D→Hp→Prop) (Post:Ex→List D→Hp→Prop)
  (step:∀ k ds h,I k ds h→∃ x ds' h',B ds h=some (x,ds',h')∧((x = .nrm∧∃ k',k'<k∧I k' ds' h')∨(x ≠ .nrm∧Post x ds' h'))) :
  ∀ (k:Nat) (ds:List D) (h:Hp),I k ds h→∃ x ds' h',a0P B ds h=some (x,ds',h')∧Post x ds' h':=by
 intro k
 induction k using Nat.strongRecOn with
 | _ k ih =>
  intro ds h hI
  obtain ⟨x,ds',h',hB,hx⟩:=step k ds h hI
  rw [a2c,hB]
  rcases hx with ⟨rfl,k',hk,hI'⟩ | ⟨hne,hP⟩
  ·exact ih k' hk ds' h' hI'
  ·refine ⟨x,ds',h',?_,hP⟩
   cases x with
   | nrm=>exact absurd rfl hne
   | ext i=>rfl
   | ret=>rfl
end Go.Pi
