/- The second level: functions that call what ranges over records. -/
import Derived.Test.YtjmndhbabkjebaaDoorRB
import Derived.Test.YtjmndhbabkjebaaDoorC1
import Derived.KernelRfl
set_option linter.unusedSimpArgs false
set_option linter.unusedVariables false
set_option linter.unnecessarySimpa false
namespace Go.Proofs.YtjmndhbabkjebaaDoor
open Go.Eng Go.Pi
abbrev b1J:Nat:=3
abbrev b4I:Nat:=4
abbrev b1K:Nat:=11
noncomputable def i3:FnI:=⟨Tryd.f3.body.getD .skip,Tryd.f3.results.toList,⟨119,[0,1,2,6,7,8,9,10,11,12,13,14,15,16,17,18,19,20,23,33,52,70,71,72,79,103],[12,18,20,27,28,56,61],[]⟩,true⟩
noncomputable def i4:FnI:=⟨Tryd.f4.body.getD .skip,Tryd.f4.results.toList,⟨47,[0,1,2,3,4,5],[4,14],[]⟩,false⟩
noncomputable def i11:FnI:=⟨Tryd.f11.body.getD .skip,Tryd.f11.results.toList,⟨39,[0,1,4,5,6,7,16,21],[],[]⟩,true⟩
noncomputable def b9N:List (Nat × FnI):=[(3,i3),(4,i4),(11,i11)]
noncomputable def Fs1:FuncId→Option FnI:=c2T b9N
theorem fk3:FnOK Tryd.prog 3 i3 := .of Tryd.func3 (by kernel_rfl) (by kernel_rfl) (by kernel_rfl) Tryd.call3
theorem fk4:FnOK Tryd.prog 4 i4 := .of Tryd.func4 (by kernel_rfl) (by kernel_rfl) (by kernel_rfl) Tryd.call4
theorem c8l:FnOK Tryd.prog 11 i11 := .of Tryd.func11 (by kernel_rfl) (by kernel_rfl) (by kernel_rfl) Tryd.call11
theorem c2U:b6v Tryd.prog b9N:=⟨fk3,fk4,c8l,trivial⟩
noncomputable def xt1:a0W:=fun f args h=>if f=a5M then b6U R a5h args h else if f=a7t then b6T R a5h args h else R f args h
noncomputable def X1:Cx:=⟨tab,gl,xt1⟩
noncomputable def R1:a0W:=run X1 Fs1
theorem er1 (fi:FnI) {f:FuncId} {args:List D} {h:Hp} {x:Option (D × Hp)} (hf:Fs1 f=some fi) (hx:fnR X1 R1 a0K fi args h=x):R1 f args h=x:=(b8O hf args h).trans hx
theorem c7H (args:List D) (h:Hp):R1 a5M args h=b6U R a5h args h:=(b2m (X:=X1) (F:=Fs1) (by kernel_rfl) _ _).trans (by simp [X1,xt1])
theorem c7G (args:List D) (h:Hp):R1 a7t args h=b6T R a5h args h:=(b2m (X:=X1) (F:=Fs1) (by kernel_rfl) _ _).trans (by simp only [X1,xt1,show ¬ (a7t=a5M) by decide,if_true,if_false])
theorem r1 (f:Nat) (hf:Fs1 f=none) (ha:f≠a5M) (hb:f≠a7t) (args:List D) (h:Hp):R1 f args h=R f args h:=(b2m (X:=X1) (F:=Fs1) hf _ _).trans (by simp only [X1,xt1,ha,hb,if_false])
theorem c6N (args:List D) (h:Hp):R1 c1g args h=R c1g args h:=r1 _ (by kernel_rfl) (by decide) (by decide) _ _
theorem c6O (args:List D) (h:Hp):R1 a5B args h=R a5B args h:=r1 _ (by kernel_rfl) (by decide) (by decide) _ _
theorem c0v (args:List D) (h:Hp):R1 a6H args h=R a6H args h:=r1 _ (by kernel_rfl) (by decide) (by decide) _ _
theorem c0w (args:List D) (h:Hp):R1 a5g args h=R a5g args h:=r1 _ (by kernel_rfl) (by decide) (by decide) _ _
theorem c0x (args:List D) (h:Hp):R1 a7s args h=R a7s args h:=r1 _ (by kernel_rfl) (by decide) (by decide) _ _
end Go.Proofs.YtjmndhbabkjebaaDoor
