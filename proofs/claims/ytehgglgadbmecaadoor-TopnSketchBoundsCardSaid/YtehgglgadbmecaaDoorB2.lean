/- The second level: functions that call what is told of the first. -/
import Derived.Test.YtehgglgadbmecaaDoorVA
import Derived.Test.YtehgglgadbmecaaDoorC1
import Derived.KernelRfl
set_option linter.unusedSimpArgs false
set_option linter.unusedVariables false
set_option linter.unnecessarySimpa false
namespace Go.Proofs.YtehgglgadbmecaaDoor
open Go.Eng Go.Pi
abbrev b1z:Nat:=3
abbrev a9r:Nat:=6
abbrev a9s:Nat:=16
noncomputable def i3:FnI:=⟨Tryd.f3.body.getD .skip,Tryd.f3.results.toList,⟨144,[0,2,3,4,5,7,8,9,10,11,12,13,14,15,16,18,36,49,62,77,81,94,107,129,143],[],[]⟩,false⟩
noncomputable def i6:FnI:=⟨Tryd.f6.body.getD .skip,Tryd.f6.results.toList,⟨26,[0,1,2,6,7,9,10,11,12,13],[9],[]⟩,false⟩
noncomputable def i16:FnI:=⟨Tryd.f16.body.getD .skip,Tryd.f16.results.toList,⟨28,[0,1,3,4,5,7,8,10,11,12,13],[3,24],[]⟩,true⟩
noncomputable def b6k:List (Nat × FnI):=[(3,i3),(6,i6),(16,i16)]
noncomputable def Fs1:FuncId→Option FnI:=b8Z b6k
theorem fk3:FnOK Tryd.prog 3 i3 := .of Tryd.func3 (by kernel_rfl) (by kernel_rfl) (by kernel_rfl) Tryd.call3
theorem fk6:FnOK Tryd.prog 6 i6 := .of Tryd.func6 (by kernel_rfl) (by kernel_rfl) (by kernel_rfl) Tryd.call6
theorem c4k:FnOK Tryd.prog 16 i16 := .of Tryd.func16 (by kernel_rfl) (by kernel_rfl) (by kernel_rfl) Tryd.call16
theorem b9a:b3c Tryd.prog b6k:=⟨fk3,fk6,c4k,trivial⟩
noncomputable def xt1:a0M:=fun f args h=>if f=a7k then b8P R c0g args h else R f args h
noncomputable def X1:Cx:=⟨tab,gl,xt1⟩
noncomputable def R1:a0M:=run X1 Fs1
theorem er1 (fi:FnI) {f:FuncId} {args:List D} {h:Hp} {x:Option (D × Hp)} (hf:Fs1 f=some fi) (hx:fnR X1 R1 a0F fi args h=x):R1 f args h=x:=(b5q hf args h).trans hx
theorem c6K (args:List D) (h:Hp):R1 a7k args h=b8P R c0g args h:=(b2B (X:=X1) (F:=Fs1) (by kernel_rfl) _ _).trans (by simp [X1,xt1])
theorem r1 (f:Nat) (hf:Fs1 f=none) (ha:f≠a7k) (args:List D) (h:Hp):R1 f args h=R f args h:=(b2B (X:=X1) (F:=Fs1) hf _ _).trans (by simp only [X1,xt1,ha,if_false])
theorem b6O (args:List D) (h:Hp):R1 a7a args h=R a7a args h:=r1 _ (by kernel_rfl) (by decide) _ _
theorem b6P (args:List D) (h:Hp):R1 a7b args h=R a7b args h:=r1 _ (by kernel_rfl) (by decide) _ _
theorem b6Q (args:List D) (h:Hp):R1 a7c args h=R a7c args h:=r1 _ (by kernel_rfl) (by decide) _ _
theorem b6T (args:List D) (h:Hp):R1 a7h args h=R a7h args h:=r1 _ (by kernel_rfl) (by decide) _ _
theorem b6R (args:List D) (h:Hp):R1 a7d args h=R a7d args h:=r1 _ (by kernel_rfl) (by decide) _ _
theorem b6S (args:List D) (h:Hp):R1 a5q args h=R a5q args h:=r1 _ (by kernel_rfl) (by decide) _ _
end Go.Proofs.YtehgglgadbmecaaDoor
