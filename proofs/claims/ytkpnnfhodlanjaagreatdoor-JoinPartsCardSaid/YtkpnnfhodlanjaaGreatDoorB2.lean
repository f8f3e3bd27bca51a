/- The second level: functions that call what is told of the first. -/
import Derived.Test.YtkpnnfhodlanjaaGreatDoorVA
import Derived.Test.YtkpnnfhodlanjaaGreatDoorC2
import Derived.KernelRfl
set_option linter.unusedSimpArgs false
set_option linter.unusedVariables false
set_option linter.unnecessarySimpa false
namespace Go.Proofs.YtkpnnfhodlanjaaGreatDoor
open Go.Eng Go.Pi
abbrev b9J:Nat:=3
abbrev b9K:Nat:=4
abbrev b1O:Nat:=5
abbrev a2w:Nat:=8
abbrev a7C:Nat:=18
noncomputable def i3:FnI:=⟨Tryz.f3.body.getD .skip,Tryz.f3.results.toList,⟨120,[0,2,3,4,5,6,8,9,10,11,12,13,14,16,50,54,60,119],[],[]⟩,false⟩
noncomputable def i4:FnI:=⟨Tryz.f4.body.getD .skip,Tryz.f4.results.toList,⟨86,[0,1,4,5,6,7,8,10,11,12,13,14,15,17,50,61,75],[81],[]⟩,true⟩
noncomputable def i5:FnI:=⟨Tryz.f5.body.getD .skip,Tryz.f5.results.toList,⟨143,[0,2,3,4,5,6,7,8,9,10,11,12,13,14,15,16,17,18,19,21,33,38,78,96,100,103,123],[44,51],[]⟩,true⟩
noncomputable def i8:FnI:=⟨Tryz.f8.body.getD .skip,Tryz.f8.results.toList,⟨146,[0,1,2,3,8,9,10,11,12,13,15,17,18,20,27,28,29,30,70,75,76,77,78,96,108,119,124,125,126,127],[15,17,20,115,142],[]⟩,true⟩
noncomputable def i18:FnI:=⟨Tryz.f18.body.getD .skip,Tryz.f18.results.toList,⟨35,[0,1,4,5,6,7,8,9,10,11,12,13,23],[29],[]⟩,true⟩
noncomputable def b6G:List (Nat × FnI):=[(3,i3),(4,i4),(5,i5),(8,i8),(18,i18)]
noncomputable def Fs1:FuncId→Option FnI:=b9P b6G
theorem fk3:FnOK Tryz.prog 3 i3 := .of Tryz.func3 (by kernel_rfl) (by kernel_rfl) (by kernel_rfl) Tryz.call3
theorem fk4:FnOK Tryz.prog 4 i4 := .of Tryz.func4 (by kernel_rfl) (by kernel_rfl) (by kernel_rfl) Tryz.call4
theorem fk5:FnOK Tryz.prog 5 i5 := .of Tryz.func5 (by kernel_rfl) (by kernel_rfl) (by kernel_rfl) Tryz.call5
theorem fk8:FnOK Tryz.prog 8 i8 := .of Tryz.func8 (by kernel_rfl) (by kernel_rfl) (by kernel_rfl) Tryz.call8
theorem c6g:FnOK Tryz.prog 18 i18 := .of Tryz.func18 (by kernel_rfl) (by kernel_rfl) (by kernel_rfl) Tryz.call18
theorem b9Q:b3J Tryz.prog b6G:=⟨fk3,fk4,fk5,fk8,c6g,trivial⟩
noncomputable def xt1:a0Z:=fun f args h=>if f=a7B then b9q R c1G args h else R f args h
noncomputable def X1:Cx:=⟨tab,gl,xt1⟩
noncomputable def R1:a0Z:=run X1 Fs1
theorem er1 (fi:FnI) {f:FuncId} {args:List D} {h:Hp} {x:Option (D × Hp)} (hf:Fs1 f=some fi) (hx:fnR X1 R1 a0z fi args h=x):R1 f args h=x:=(b5N hf args h).trans hx
theorem c8I (args:List D) (h:Hp):R1 a7B args h=b9q R c1G args h:=(b5P (X:=X1) (F:=Fs1) (by kernel_rfl) _ _).trans (by simp [X1,xt1])
theorem r1 (f:Nat) (hf:Fs1 f=none) (ha:f≠a7B) (args:List D) (h:Hp):R1 f args h=R f args h:=(b5P (X:=X1) (F:=Fs1) hf _ _).trans (by simp only [X1,xt1,ha,if_false])
theorem b7o (args:List D) (h:Hp):R1 a4S args h=R a4S args h:=r1 _ (by kernel_rfl) (by decide) _ _
theorem b7r (args:List D) (h:Hp):R1 a4n args h=R a4n args h:=r1 _ (by kernel_rfl) (by decide) _ _
theorem c8e (args:List D) (h:Hp):R1 b5u args h=R b5u args h:=r1 _ (by kernel_rfl) (by decide) _ _
theorem c8f (args:List D) (h:Hp):R1 b6E args h=R b6E args h:=r1 _ (by kernel_rfl) (by decide) _ _
theorem c4c (args:List D) (h:Hp):R1 a3O args h=R a3O args h:=r1 _ (by kernel_rfl) (by decide) _ _
theorem b7s (args:List D) (h:Hp):R1 a3P args h=R a3P args h:=r1 _ (by kernel_rfl) (by decide) _ _
theorem c4f (args:List D) (h:Hp):R1 a2f args h=R a2f args h:=r1 _ (by kernel_rfl) (by decide) _ _
theorem b2N (args:List D) (h:Hp):R1 a5B args h=R a5B args h:=r1 _ (by kernel_rfl) (by decide) _ _
theorem b7p (args:List D) (h:Hp):R1 a5F args h=R a5F args h:=r1 _ (by kernel_rfl) (by decide) _ _
theorem c4d (args:List D) (h:Hp):R1 a4T args h=R a4T args h:=r1 _ (by kernel_rfl) (by decide) _ _
theorem b7q (args:List D) (h:Hp):R1 a5G args h=R a5G args h:=r1 _ (by kernel_rfl) (by decide) _ _
theorem c4e (args:List D) (h:Hp):R1 a4U args h=R a4U args h:=r1 _ (by kernel_rfl) (by decide) _ _
end Go.Proofs.YtkpnnfhodlanjaaGreatDoor
