/- The second level: functions that call what is told of the first. -/
import Derived.Test.YtkpnnfhodlanjaaDoorVA
import Derived.Test.YtkpnnfhodlanjaaDoorC1
import Derived.KernelRfl
set_option linter.unusedSimpArgs false
set_option linter.unusedVariables false
set_option linter.unnecessarySimpa false
namespace Go.Proofs.YtkpnnfhodlanjaaDoor
open Go.Eng Go.Pi
abbrev a8I:Nat:=3
abbrev a5I:Nat:=5
abbrev a5J:Nat:=7
noncomputable def i3:FnI:=⟨Tryd.f3.body.getD .skip,Tryd.f3.results.toList,⟨70,[0,1,4,5,6,7,8,9,10,12,18,31,50],[24,37],[]⟩,true⟩
noncomputable def i5:FnI:=⟨Tryd.f5.body.getD .skip,Tryd.f5.results.toList,⟨146,[0,1,2,3,8,9,10,11,12,13,15,17,18,20,27,28,29,30,70,75,76,77,78,96,108,119,124,125,126,127],[15,17,20,115,142],[]⟩,true⟩
noncomputable def i7:FnI:=⟨Tryd.f7.body.getD .skip,Tryd.f7.results.toList,⟨35,[0,1,4,5,6,7,8,9,10,11,12,13,23],[29],[]⟩,true⟩
noncomputable def b2e:List (Nat × FnI):=[(3,i3),(5,i5),(7,i7)]
noncomputable def Fs1:FuncId→Option FnI:=b4t b2e
theorem fk3:FnOK Tryd.prog 3 i3 := .of Tryd.func3 (by kernel_rfl) (by kernel_rfl) (by kernel_rfl) Tryd.call3
theorem fk5:FnOK Tryd.prog 5 i5 := .of Tryd.func5 (by kernel_rfl) (by kernel_rfl) (by kernel_rfl) Tryd.call5
theorem fk7:FnOK Tryd.prog 7 i7 := .of Tryd.func7 (by kernel_rfl) (by kernel_rfl) (by kernel_rfl) Tryd.call7
theorem b4u:b0e Tryd.prog b2e:=⟨fk3,fk5,fk7,trivial⟩
noncomputable def xt1:a0F:=fun f args h=>if f=a5G then b4b R b5F args h else R f args h
noncomputable def X1:Cx:=⟨tab,gl,xt1⟩
noncomputable def R1:a0F:=run X1 Fs1
theorem er1 (fi:FnI) {f:FuncId} {args:List D} {h:Hp} {x:Option (D × Hp)} (hf:Fs1 f=some fi) (hx:fnR X1 R1 a0v fi args h=x):R1 f args h=x:=(b1C hf args h).trans hx
theorem b9T (args:List D) (h:Hp):R1 a5G args h=b4b R b5F args h:=(b1E (X:=X1) (F:=Fs1) (by kernel_rfl) _ _).trans (by simp [X1,xt1])
theorem r1 (f:Nat) (hf:Fs1 f=none) (ha:f≠a5G) (args:List D) (h:Hp):R1 f args h=R f args h:=(b1E (X:=X1) (F:=Fs1) hf _ _).trans (by simp only [X1,xt1,ha,if_false])
theorem b2D (args:List D) (h:Hp):R1 a5H args h=R a5H args h:=r1 _ (by kernel_rfl) (by decide) _ _
theorem a9v (args:List D) (h:Hp):R1 a3W args h=R a3W args h:=r1 _ (by kernel_rfl) (by decide) _ _
theorem b2E (args:List D) (h:Hp):R1 a3Y args h=R a3Y args h:=r1 _ (by kernel_rfl) (by decide) _ _
theorem b7c (args:List D) (h:Hp):R1 a3v args h=R a3v args h:=r1 _ (by kernel_rfl) (by decide) _ _
theorem b2F (args:List D) (h:Hp):R1 a3Z args h=R a3Z args h:=r1 _ (by kernel_rfl) (by decide) _ _
theorem b7d (args:List D) (h:Hp):R1 a3w args h=R a3w args h:=r1 _ (by kernel_rfl) (by decide) _ _
end Go.Proofs.YtkpnnfhodlanjaaDoor
