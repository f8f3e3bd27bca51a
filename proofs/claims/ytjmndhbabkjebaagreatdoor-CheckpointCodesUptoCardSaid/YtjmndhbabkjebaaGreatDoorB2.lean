/- The second level: functions that call what ranges over records. -/
import Derived.Test.YtjmndhbabkjebaaGreatDoorRB
import Derived.Test.YtjmndhbabkjebaaGreatDoorC2
import Derived.KernelRfl
set_option linter.unusedSimpArgs false
set_option linter.unusedVariables false
set_option linter.unnecessarySimpa false
namespace Go.Proofs.YtjmndhbabkjebaaGreatDoor
open Go.Eng Go.Pi
abbrev b4r:Nat:=3
abbrev c6Q:Nat:=4
abbrev b4n:Nat:=5
abbrev c1C:Nat:=27
noncomputable def i3:FnI:=⟨Tryz.f3.body.getD .skip,Tryz.f3.results.toList,⟨201,[0,1,2,3,4,10,11,12,13,14,16,17,18,19,20,21,23,24,26,27,28,29,30,31,32,34,41,47,57,61,74,80,94,95,96,97,119,168,169,170,171,199],[12,16,27,30,54,71,78,89],[1000094,1000168]⟩,true⟩
noncomputable def i4:FnI:=⟨Tryz.f4.body.getD .skip,Tryz.f4.results.toList,⟨134,[0,1,2,3,8,9,10,11,12,13,14,15,16,18,19,20,21,22,23,24,26,28,31,37,63,79,80,81,82,113,117,118,119,120,131],[12,19,21,117],[1000079]⟩,true⟩
noncomputable def i5:FnI:=⟨Tryz.f5.body.getD .skip,Tryz.f5.results.toList,⟨47,[0,1,2,3,4,5],[4,14],[]⟩,false⟩
noncomputable def i27:FnI:=⟨Tryz.f27.body.getD .skip,Tryz.f27.results.toList,⟨39,[0,1,4,5,6,7,16,21],[],[]⟩,true⟩
noncomputable def c3c:List (Nat × FnI):=[(3,i3),(4,i4),(5,i5),(27,i27)]
noncomputable def Fs1:FuncId→Option FnI:=c6T c3c
theorem fk3:FnOK Tryz.prog 3 i3 := .of Tryz.func3 (by kernel_rfl) (by kernel_rfl) (by kernel_rfl) Tryz.call3
theorem fk4:FnOK Tryz.prog 4 i4 := .of Tryz.func4 (by kernel_rfl) (by kernel_rfl) (by kernel_rfl) Tryz.call4
theorem fk5:FnOK Tryz.prog 5 i5 := .of Tryz.func5 (by kernel_rfl) (by kernel_rfl) (by kernel_rfl) Tryz.call5
theorem d4B:FnOK Tryz.prog 27 i27 := .of Tryz.func27 (by kernel_rfl) (by kernel_rfl) (by kernel_rfl) Tryz.call27
theorem c6U:b9x Tryz.prog c3c:=⟨fk3,fk4,fk5,d4B,trivial⟩
noncomputable def xt1:a1A:=fun f args h=>if f=a7Y then b9V R a4E args h else if f=a9d then c2L R a4E args h else R f args h
noncomputable def X1:Cx:=⟨tab,gl,xt1⟩
noncomputable def R1:a1A:=run X1 Fs1
theorem er1 (fi:FnI) {f:FuncId} {args:List D} {h:Hp} {x:Option (D × Hp)} (hf:Fs1 f=some fi) (hx:fnR X1 R1 a0P fi args h=x):R1 f args h=x:=(c2c hf args h).trans hx
theorem d3G (args:List D) (h:Hp):R1 a7Y args h=b9V R a4E args h:=(b5b (X:=X1) (F:=Fs1) (by kernel_rfl) _ _).trans (by simp [X1,xt1])
theorem d6X (args:List D) (h:Hp):R1 a9d args h=c2L R a4E args h:=(b5b (X:=X1) (F:=Fs1) (by kernel_rfl) _ _).trans (by simp only [X1,xt1,show ¬ (a9d=a7Y) by decide,if_true,if_false])
theorem r1 (f:Nat) (hf:Fs1 f=none) (ha:f≠a7Y) (hb:f≠a9d) (args:List D) (h:Hp):R1 f args h=R f args h:=(b5b (X:=X1) (F:=Fs1) hf _ _).trans (by simp only [X1,xt1,ha,hb,if_false])
theorem d2v (args:List D) (h:Hp):R1 c3a args h=R c3a args h:=r1 _ (by kernel_rfl) (by decide) (by decide) _ _
theorem c3S (args:List D) (h:Hp):R1 a7i args h=R a7i args h:=r1 _ (by kernel_rfl) (by decide) (by decide) _ _
theorem c7M (args:List D) (h:Hp):R1 a5n args h=R a5n args h:=r1 _ (by kernel_rfl) (by decide) (by decide) _ _
theorem c7L (args:List D) (h:Hp):R1 a5z args h=R a5z args h:=r1 _ (by kernel_rfl) (by decide) (by decide) _ _
theorem c3R (args:List D) (h:Hp):R1 a9a args h=R a9a args h:=r1 _ (by kernel_rfl) (by decide) (by decide) _ _
theorem c3O (args:List D) (h:Hp):R1 a7V args h=R a7V args h:=r1 _ (by kernel_rfl) (by decide) (by decide) _ _
theorem c3V (args:List D) (h:Hp):R1 a7Z args h=R a7Z args h:=r1 _ (by kernel_rfl) (by decide) (by decide) _ _
theorem b8C (args:List D) (h:Hp):R1 a7k args h=R a7k args h:=r1 _ (by kernel_rfl) (by decide) (by decide) _ _
theorem c3P (args:List D) (h:Hp):R1 a2l args h=R a2l args h:=r1 _ (by kernel_rfl) (by decide) (by decide) _ _
theorem c3Q (args:List D) (h:Hp):R1 a4Q args h=R a4Q args h:=r1 _ (by kernel_rfl) (by decide) (by decide) _ _
theorem c3W (args:List D) (h:Hp):R1 a4E args h=R a4E args h:=r1 _ (by kernel_rfl) (by decide) (by decide) _ _
theorem c3X (args:List D) (h:Hp):R1 a7l args h=R a7l args h:=r1 _ (by kernel_rfl) (by decide) (by decide) _ _
theorem c3U (args:List D) (h:Hp):R1 a9c args h=R a9c args h:=r1 _ (by kernel_rfl) (by decide) (by decide) _ _
theorem c3T (args:List D) (h:Hp):R1 a7j args h=R a7j args h:=r1 _ (by kernel_rfl) (by decide) (by decide) _ _
theorem d2x (args:List D) (h:Hp):R1 b4s args h=R b4s args h:=r1 _ (by kernel_rfl) (by decide) (by decide) _ _
theorem d2y (args:List D) (h:Hp):R1 b4t args h=R b4t args h:=r1 _ (by kernel_rfl) (by decide) (by decide) _ _
theorem d2z (args:List D) (h:Hp):R1 a9e args h=R a9e args h:=r1 _ (by kernel_rfl) (by decide) (by decide) _ _
theorem d2A (args:List D) (h:Hp):R1 b4u args h=R b4u args h:=r1 _ (by kernel_rfl) (by decide) (by decide) _ _
theorem d2w (args:List D) (h:Hp):R1 b4c args h=R b4c args h:=r1 _ (by kernel_rfl) (by decide) (by decide) _ _
theorem d2B (args:List D) (h:Hp):R1 b4v args h=R b4v args h:=r1 _ (by kernel_rfl) (by decide) (by decide) _ _
end Go.Proofs.YtjmndhbabkjebaaGreatDoor
