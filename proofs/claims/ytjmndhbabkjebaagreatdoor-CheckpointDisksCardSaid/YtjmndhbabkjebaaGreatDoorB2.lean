/- The second level: functions that call what ranges over records. -/
import Derived.Test.YtjmndhbabkjebaaGreatDoorRB
import Derived.Test.YtjmndhbabkjebaaGreatDoorC2
import Derived.KernelRfl
set_option linter.unusedSimpArgs false
set_option linter.unusedVariables false
set_option linter.unnecessarySimpa false
namespace Go.Proofs.YtjmndhbabkjebaaGreatDoor
open Go.Eng Go.Pi
abbrev c6O:Nat:=3
abbrev b4v:Nat:=4
abbrev b4q:Nat:=5
abbrev b4r:Nat:=27
noncomputable def i3:FnI:=⟨Tryz.f3.body.getD .skip,Tryz.f3.results.toList,⟨201,[0,1,2,3,4,10,11,12,13,14,16,17,18,19,20,21,23,24,26,27,28,29,30,31,32,34,41,47,57,61,74,80,94,95,96,97,119,168,169,170,171,199],[12,16,27,30,54,71,78,89],[1000094,1000168]⟩,true⟩
noncomputable def i4:FnI:=⟨Tryz.f4.body.getD .skip,Tryz.f4.results.toList,⟨134,[0,1,2,3,8,9,10,11,12,13,14,15,16,18,19,20,21,22,23,24,26,28,31,37,63,79,80,81,82,113,117,118,119,120,131],[12,19,21,117],[1000079]⟩,true⟩
noncomputable def i5:FnI:=⟨Tryz.f5.body.getD .skip,Tryz.f5.results.toList,⟨47,[0,1,2,3,4,5],[4,14],[]⟩,false⟩
noncomputable def i27:FnI:=⟨Tryz.f27.body.getD .skip,Tryz.f27.results.toList,⟨39,[0,1,4,5,6,7,16,21],[],[]⟩,true⟩
noncomputable def c2W:List (Nat × FnI):=[(3,i3),(4,i4),(5,i5),(27,i27)]
noncomputable def Fs1:FuncId→Option FnI:=c6R c2W
theorem fk3:FnOK Tryz.prog 3 i3 := .of Tryz.func3 (by kernel_rfl) (by kernel_rfl) (by kernel_rfl) Tryz.call3
theorem fk4:FnOK Tryz.prog 4 i4 := .of Tryz.func4 (by kernel_rfl) (by kernel_rfl) (by kernel_rfl) Tryz.call4
theorem fk5:FnOK Tryz.prog 5 i5 := .of Tryz.func5 (by kernel_rfl) (by kernel_rfl) (by kernel_rfl) Tryz.call5
theorem d4w:FnOK Tryz.prog 27 i27 := .of Tryz.func27 (by kernel_rfl) (by kernel_rfl) (by kernel_rfl) Tryz.call27
theorem c6S:b9A Tryz.prog c2W:=⟨fk3,fk4,fk5,d4w,trivial⟩
noncomputable def xt1:a1w:=fun f args h=>if f=a7d then b6I R a4A args h else if f=a7W then b9W R a4A args h else R f args h
noncomputable def X1:Cx:=⟨tab,gl,xt1⟩
noncomputable def R1:a1w:=run X1 Fs1
theorem er1 (fi:FnI) {f:FuncId} {args:List D} {h:Hp} {x:Option (D × Hp)} (hf:Fs1 f=some fi) (hx:fnR X1 R1 a0N fi args h=x):R1 f args h=x:=(c1V hf args h).trans hx
theorem c8u (args:List D) (h:Hp):R1 a7d args h=b6I R a4A args h:=(b5d (X:=X1) (F:=Fs1) (by kernel_rfl) _ _).trans (by simp [X1,xt1])
theorem d3G (args:List D) (h:Hp):R1 a7W args h=b9W R a4A args h:=(b5d (X:=X1) (F:=Fs1) (by kernel_rfl) _ _).trans (by simp only [X1,xt1,show ¬ (a7W=a7d) by decide,if_true,if_false])
theorem r1 (f:Nat) (hf:Fs1 f=none) (ha:f≠a7d) (hb:f≠a7W) (args:List D) (h:Hp):R1 f args h=R f args h:=(b5d (X:=X1) (F:=Fs1) hf _ _).trans (by simp only [X1,xt1,ha,hb,if_false])
theorem d2k (args:List D) (h:Hp):R1 c2U args h=R c2U args h:=r1 _ (by kernel_rfl) (by decide) (by decide) _ _
theorem c3F (args:List D) (h:Hp):R1 a7c args h=R a7c args h:=r1 _ (by kernel_rfl) (by decide) (by decide) _ _
theorem d2u (args:List D) (h:Hp):R1 a4T args h=R a4T args h:=r1 _ (by kernel_rfl) (by decide) (by decide) _ _
theorem d3V (args:List D) (h:Hp):R1 a6L args h=R a6L args h:=r1 _ (by kernel_rfl) (by decide) (by decide) _ _
theorem d2p (args:List D) (h:Hp):R1 b4k args h=R b4k args h:=r1 _ (by kernel_rfl) (by decide) (by decide) _ _
theorem d2l (args:List D) (h:Hp):R1 a7S args h=R a7S args h:=r1 _ (by kernel_rfl) (by decide) (by decide) _ _
theorem d2q (args:List D) (h:Hp):R1 a7V args h=R a7V args h:=r1 _ (by kernel_rfl) (by decide) (by decide) _ _
theorem d2s (args:List D) (h:Hp):R1 a7e args h=R a7e args h:=r1 _ (by kernel_rfl) (by decide) (by decide) _ _
theorem d2m (args:List D) (h:Hp):R1 a2o args h=R a2o args h:=r1 _ (by kernel_rfl) (by decide) (by decide) _ _
theorem d2o (args:List D) (h:Hp):R1 a5E args h=R a5E args h:=r1 _ (by kernel_rfl) (by decide) (by decide) _ _
theorem d2r (args:List D) (h:Hp):R1 a4A args h=R a4A args h:=r1 _ (by kernel_rfl) (by decide) (by decide) _ _
theorem d2t (args:List D) (h:Hp):R1 a7f args h=R a7f args h:=r1 _ (by kernel_rfl) (by decide) (by decide) _ _
theorem c3H (args:List D) (h:Hp):R1 a8V args h=R a8V args h:=r1 _ (by kernel_rfl) (by decide) (by decide) _ _
theorem c3G (args:List D) (h:Hp):R1 a6t args h=R a6t args h:=r1 _ (by kernel_rfl) (by decide) (by decide) _ _
theorem c3I (args:List D) (h:Hp):R1 b1l args h=R b1l args h:=r1 _ (by kernel_rfl) (by decide) (by decide) _ _
theorem c3J (args:List D) (h:Hp):R1 a8W args h=R a8W args h:=r1 _ (by kernel_rfl) (by decide) (by decide) _ _
theorem c3K (args:List D) (h:Hp):R1 a7g args h=R a7g args h:=r1 _ (by kernel_rfl) (by decide) (by decide) _ _
theorem c3L (args:List D) (h:Hp):R1 b1m args h=R b1m args h:=r1 _ (by kernel_rfl) (by decide) (by decide) _ _
theorem c3E (args:List D) (h:Hp):R1 b0X args h=R b0X args h:=r1 _ (by kernel_rfl) (by decide) (by decide) _ _
theorem c3M (args:List D) (h:Hp):R1 a8X args h=R a8X args h:=r1 _ (by kernel_rfl) (by decide) (by decide) _ _
end Go.Proofs.YtjmndhbabkjebaaGreatDoor
