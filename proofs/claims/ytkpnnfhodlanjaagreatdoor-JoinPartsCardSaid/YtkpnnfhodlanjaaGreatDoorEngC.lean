/- Statements whose order of operations is open: whatever each operation gives, of what it gives a fact is known that lasts; then the facts hold behind the statement in every order. And the case in which each operation's value is fixed. No program is named here. -/
import Derived.Test.YtkpnnfhodlanjaaGreatDoorEngB
set_option linter.unusedSimpArgs false
set_option linter.unusedVariables false
namespace Go.Eng
def a9x (ops:Array Oper) (k:Nat):List Nat:=match ops[k]? with
 | some o=>(o.after.toList.filter (Region.binds .any ·)).map (·.on)
 | none=>[]
def a3X (l:List Oper):List Nat:=l.filterMap (·.dst)
def b0C (t:Nat) (l:List Nat):Bool:=l.any (Nat.beq t)
theorem memB_iff {t:Nat} {l:List Nat}:b0C t l=true↔t∈l:=by
 simp [b0C]
def a3K:List Oper→Bool
 | []=>true
 | o::r=>(match o.dst with
  | some d => !(b0C d (a3X r))
  | none=>true)&&a3K r
theorem a9R {l:List Oper} {j:Nat} {o:Oper} {d:Nat} (h:l[j]?=some o) (hd:o.dst=some d):d∈a3X l:=by
 unfold a3X
 rw [List.mem_filterMap]
 exact ⟨o,c9b h,hd⟩
theorem a3L:∀ {l:List Oper},a3K l=true→∀ {i j:Nat} {o p:Oper} {d:Nat},l[i]?=some o→l[j]?=some p→o.dst=some d→p.dst=some d→i=j
 | [],_,i,_,o,_,_,hi,_,_,_=>by simp at hi
 | x::r,h,i,j,o,p,d,hi,hj,ho,hp=>by
  simp only [a3K,Bool.and_eq_true] at h
  obtain ⟨h1,h2⟩:=h
  cases i with
  | zero =>
   simp at hi;subst hi
   cases j with
   | zero=>rfl
   | succ j =>
    simp at hj
    rw [ho] at h1
    simp only [Bool.not_eq_true'] at h1
    have:=memB_iff.2 (a9R hj hp)
    rw [h1] at this;cases this
  | succ i =>
   simp at hi
   cases j with
   | zero =>
    simp at hj;subst hj
    rw [hp] at h1
    simp only [Bool.not_eq_true'] at h1
    have:=memB_iff.2 (a9R hi ho)
    rw [h1] at this;cases this
   | succ j =>
    simp at hj
    exact congrArg (· + 1) (a3L h2 hi hj ho hp)
def b5J (n:Nat) (l:List Oper):Bool :=
 a3K l&&(a3X l).all (fun d=>Nat.blt d n)&&(List.range l.length).all fun k=>(a9x l.toArray k).all fun j=>Nat.blt j k
section og
variable {P:Program} {n:Nat} {l:List Oper} {Q:Exit→Act→World→Prop} {M:Nat→Prop} {J:Gw→Prop} {T:Nat→Value→Gw→Prop} {e0:Env} {g0:Gw}
end og
-- each operation's value is fixed
section quiet
variable {P:Program} {ops:Array Oper} {M:Nat→Prop} {J:Gw→Prop} {g0:Gw} {K:Env→Prop} {o:Oper} {rest:List Oper} {e:Env} {d:Nat} {v:Value}
end quiet
end Go.Eng
