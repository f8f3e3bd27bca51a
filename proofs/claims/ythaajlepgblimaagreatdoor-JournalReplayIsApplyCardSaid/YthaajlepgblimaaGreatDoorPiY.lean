/- Laws of the operations on typed data, and of loops: for the plain proofs. No program is named here. -/
import Derived.Test.YthaajlepgblimaaGreatDoorPiX
set_option linter.unusedSimpArgs false
set_option linter.unusedVariables false
set_option linter.unnecessarySimpa false
namespace Go.Pi
open Go.Eng
open Option (bind_some)
@[simp] theorem bs {α β:Type} (a:α) (f:α→Option β):(some a).bind f=f a:=id rfl
@[simp] theorem a0j (d:D):a0f [d]=d:=id rfl
@[simp] theorem a1d (a b:D) (r:List D):a0f (a::b::r) = .tup (a::b::r):=id rfl
@[simp] theorem a0d {R:Type} (b:Bool) (x y:Option R):dIf (.bool b) x y=if b=true then x else y:=by cases b <;> exact id rfl
@[simp] theorem a1A (b:Bool):dUn .not (.bool b)=some (.bool (!b)):=id rfl
@[simp] theorem a0g (b:Bool) (x y:D):a0R (.bool b) x y=some (if b=true then x else y):=by cases b <;> exact id rfl
@[simp] theorem a0v (b c:Bool) (x:Option D):gd (.bool b) c x=if b=c then x else some .und:=by cases b <;> cases c <;> exact id rfl
@[simp] theorem a2x (c:Bool) (x:Option D):gd .und c x=some .und:=id rfl
@[simp] theorem a5y (c:Bool) (h:Hp) (x:Option (D × Hp)):gdW .und c h x=some (.und,h):=id rfl
@[simp] theorem a0Y (b c:Bool) (h:Hp) (x:Option (D × Hp)):gdW (.bool b) c h x=if b=c then x else some (.und,h):=by cases b <;> cases c <;> exact id rfl
@[simp] theorem a0k {R:Type} (n:Option R) (k:Ex→Option R):a0K .nrm n k=n:=id rfl
@[simp] theorem a2m {R:Type} (n:Option R) (k:Ex→Option R):a0K .ret n k=k .ret:=id rfl
@[simp] theorem b9G {R:Type} (i:Nat) (n:Option R) (k:Ex→Option R):a0K (.ext i) n k=k (.ext i):=id rfl
@[simp] theorem a2k {R:Type} (r:Option R):a1c .nrm r=r:=id rfl
@[simp] theorem a2H {R:Type} (r:Option R):a1c .ret r=r:=id rfl
@[simp] theorem a1u (i:Nat):a0G i .nrm = .nrm:=id rfl
@[simp] theorem a2t (i:Nat):a0G i .ret = .ret:=id rfl
@[simp] theorem a0l (i:Nat):a0G i (.ext i) = .nrm:=by simp [-bind_some, a0G]
@[simp] theorem a0e (d:D) (r:List D):nth 0 (d::r)=d:=id rfl
@[simp] theorem a0m (k:Nat) (d:D) (r:List D):nth (k+1) (d::r)=nth k r:=id rfl
@[simp] theorem a1v {R:Type} (p:Prop) (x:Option R) (h:p):chk p x=x:=by unfold chk;exact if_pos h
@[simp] theorem a2V (call:a1y) (f:FuncId) (as xs ys:List D) (h:Hp):a3o call (.fn (.func f) xs ys) as h=call f (xs++as++ys) h:=id rfl
@[simp] theorem c9f (s:List UInt8):a1B (.str s)=some (.fptr [.str s]):=id rfl
@[simp] theorem b8U (k:IntKind) (n:Int):a1B (.int k n)=some (.fptr [.int k n]):=id rfl
@[simp] theorem c5F (b:Bool):a1B (.bool b)=some (.fptr [.bool b]):=id rfl
@[simp] theorem a0V (cs:List D):a1B (.agg cs)=some (.fptr cs):=id rfl
@[simp] theorem c5G:a1B .nils=some (.fptr [.nils]):=id rfl
@[simp] theorem d0F (z:Nat) (f:Bool) (r:List (List D)):a1B (.sl z f r)=some (.fptr [.sl z f r]):=id rfl
section
variable (T:Tab) (t:Nat) (k:IntKind) (a b:Int) (s u:List UInt8) (p q:Bool)
@[simp] theorem a0o:a0i T .lss t (.int k a) (.int k b)=some (.bool (decide (a<b))):=by simp [-bind_some, a0i,a1U]
@[simp] theorem a2u:a0i T .leq t (.int k a) (.int k b)=some (.bool (decide (a≤b))):=by simp [-bind_some, a0i,a1U]
@[simp] theorem a0x:a0i T .gtr t (.int k a) (.int k b)=some (.bool (decide (b<a))):=by simp [-bind_some, a0i,a1U]
@[simp] theorem a2Y:a0i T .geq t (.int k a) (.int k b)=some (.bool (decide (b≤a))):=by simp [-bind_some, a0i,a1U]
@[simp] theorem a0P:a0i T .eql t (.int k a) (.int k b)=some (.bool (decide (a=b))):=by simp [-bind_some, a0i,a1U];rfl
@[simp] theorem a0A:a0i T .neq t (.int k a) (.int k b)=some (.bool (decide (a≠b))):=by simp [-bind_some, a0i,a1U,bne];rfl
@[simp] theorem a0r:a0i T .add t (.int k a) (.int k b)=some (.int k (k.wrap (a+b))):=by simp [-bind_some, a0i,a1U]
@[simp] theorem a0N:a0i T .sub t (.int k a) (.int k b)=some (.int k (k.wrap (a - b))):=by simp [-bind_some, a0i,a1U]
@[simp] theorem a4R:a0i T .mul t (.int k a) (.int k b)=some (.int k (k.wrap (a*b))):=by simp [-bind_some, a0i,a1U]
@[simp] theorem b3I:a0i T .quo t (.int k a) (.int k b)=if b=0 then none else some (.int k (k.wrap (a.tdiv b))):=by simp [-bind_some, a0i,a1U]
@[simp] theorem a4S:a0i T .rem t (.int k a) (.int k b)=if b=0 then none else some (.int k (a.tmod b)):=by simp [-bind_some, a0i,a1U]
@[simp] theorem a1E:a0i T .eql t (.str s) (.str u)=some (.bool (s==u)):=id rfl
@[simp] theorem a2F:a0i T .neq t (.str s) (.str u)=some (.bool (!(s==u))):=id rfl
@[simp] theorem b6K:a0i T .lss t (.str s) (.str u)=some (.bool (Op.bytesLess s u)):=id rfl
end
@[simp] theorem a3y (n:Nat) (cs:List D) (h:cs.length=n):a5U n (.agg cs)=some (.fptr cs):=by subst h;simp [-bind_some, a5U,D.okv,a0B]
@[simp] theorem a0I (i:Nat) (ds:List D):a0w i (.tup ds)=ds[i]?:=id rfl
@[simp] theorem b3O (k:IntKind) (a b:Int):b9S (.int k a) (.int k b)=some (.int k (if a≤b then a else b)):=by
 first | rfl | (simp [-bind_some, b9S];done) | (simp only [b9S];split <;> simp_all [-bind_some] <;> omega)
theorem wrap_i64 {n:Int} (h0 : -9223372036854775808≤n) (h1:n≤9223372036854775807):IntKind.wrap .i64 n=n:=by
 unfold IntKind.wrap
 simp [-bind_some, IntKind.signed,IntKind.bits,IntKind.min,IntKind.max]
 omega
theorem a9R {α:Type} (pre:List α) (p:α) (suf:List α):(pre++p::suf)[pre.length]?=some p:=by simp
def SlOf {α:Type} (z:Nat) (f:α→List D) (l:List α) (d:D):Prop:=(d = .nils∧l=[])∨∃ full,d = .sl z full (l.map f)
theorem SlOf.nils {α:Type} (z:Nat) (f:α→List D):SlOf z f [] .nils := .inl ⟨rfl,rfl⟩
theorem SlOf.mk {α:Type} (z:Nat) (f:α→List D) (l:List α) (full:Bool):SlOf z f l (.sl z full (l.map f)) := .inr ⟨_,rfl⟩
theorem b8x {B:List D→Hp→Option Out} (I:Nat→List D→Hp→Prop) (Post:Ex→List D→Hp→Prop)
  (step:∀ k ds h,I k ds h→∃ x ds' h',B ds h=some (x,ds',h')∧((x = .nrm∧∃ k',k'<k∧I k' ds' h')∨(x ≠ .nrm∧Post x ds' h'))) :
  ∀ (k:Nat) (ds:List D) (h:Hp),I k ds h→∃ x ds' h',a0J B ds h=some (x,ds',h')∧Post x ds' h':=by
 intro k
 induction k using Nat.strongRecOn with
 | _ k ih =>
  intro ds h hI
  obtain ⟨x,ds',h',hB,hx⟩:=step k ds h hI
  rw [a1r,hB]
  rcases hx with ⟨rfl,k',hk,hI'⟩ | ⟨hne,hP⟩
  ·exact ih k' hk ds' h' hI'
  ·refine ⟨x,ds',h',?_,hP⟩
   cases x with
   | nrm=>exact absurd rfl hne
   | ext i=>rfl
   | ret=>rfl
end Go.Pi
