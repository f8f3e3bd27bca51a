import Derived.Test.YtehgglgadbmecaaGreatDoorVA
import Derived.Test.YtehgglgadbmecaaGreatDoorC2
import Derived.KernelRfl
set_option linter.unusedSimpArgs false
set_option linter.unusedVariables false
set_option linter.unnecessarySimpa false
namespace Go.Proofs.YtehgglgadbmecaaGreatDoor
open Go.Eng Go.Pi
abbrev b2v:Nat:=3
abbrev c0t:Nat:=4
abbrev a7P:Nat:=10
abbrev b0n:Nat:=35
noncomputable def i3:FnI:=⟨Tryz.f3.body.getD .skip,Tryz.f3.results.toList,⟨44,[0,1,2,6,7,8,11,12,14],[],[]⟩,false⟩
noncomputable def i4:FnI:=⟨Tryz.f4.body.getD .skip,Tryz.f4.results.toList,⟨78,[0,1,4,5,6,7,9,10,11,12,14,25,55],[],[]⟩,false⟩
noncomputable def i10:FnI:=⟨Tryz.f10.body.getD .skip,Tryz.f10.results.toList,⟨26,[0,1,2,6,7,9,10,11,12,13],[9],[]⟩,false⟩
noncomputable def i35:FnI:=⟨Tryz.f35.body.getD .skip,Tryz.f35.results.toList,⟨28,[0,1,3,4,5,7,8,10,11,12,13],[3,24],[]⟩,true⟩
noncomputable def b7t:List (Nat × FnI):=[(3,i3),(4,i4),(10,i10),(35,i35)]
noncomputable def Fs1:FuncId→Option FnI:=c0z b7t
theorem fk3:FnOK Tryz.prog 3 i3 := .of Tryz.func3 (by kernel_rfl) (by kernel_rfl) (by kernel_rfl) Tryz.call3
theorem fk4:FnOK Tryz.prog 4 i4 := .of Tryz.func4 (by kernel_rfl) (by kernel_rfl) (by kernel_rfl) Tryz.call4
theorem c6E:FnOK Tryz.prog 10 i10 := .of Tryz.func10 (by kernel_rfl) (by kernel_rfl) (by kernel_rfl) Tryz.call10
theorem c7d:FnOK Tryz.prog 35 i35 := .of Tryz.func35 (by kernel_rfl) (by kernel_rfl) (by kernel_rfl) Tryz.call35
theorem c0A:b4l Tryz.prog b7t:=⟨fk3,fk4,c6E,c7d,trivial⟩
noncomputable def xt1:a0Q:=fun f args h=>if f=a7V then c0i R c1L args h else R f args h
noncomputable def X1:Cx:=⟨tab,gl,xt1⟩
noncomputable def R1:a0Q:=run X1 Fs1
theorem er1 (fi:FnI) {f:FuncId} {args:List D} {h:Hp} {x:Option (D × Hp)} (hf:Fs1 f=some fi) (hx:fnR X1 R1 a0B fi args h=x):R1 f args h=x:=(b6x hf args h).trans hx
theorem c9D (args:List D) (h:Hp):R1 a7V args h=c0i R c1L args h:=(b3A (X:=X1) (F:=Fs1) (by kernel_rfl) _ _).trans (by simp [X1,xt1])
theorem r1 (f:Nat) (hf:Fs1 f=none) (ha:f≠a7V) (args:List D) (h:Hp):R1 f args h=R f args h:=(b3A (X:=X1) (F:=Fs1) hf _ _).trans (by simp only [X1,xt1,ha,if_false])
theorem b7X (args:List D) (h:Hp):R1 a5H args h=R a5H args h:=r1 _ (by kernel_rfl) (by decide) _ _
theorem b7Y (args:List D) (h:Hp):R1 a5I args h=R a5I args h:=r1 _ (by kernel_rfl) (by decide) _ _
theorem b7Z (args:List D) (h:Hp):R1 a7L args h=R a7L args h:=r1 _ (by kernel_rfl) (by decide) _ _
theorem b8a (args:List D) (h:Hp):R1 a5J args h=R a5J args h:=r1 _ (by kernel_rfl) (by decide) _ _
theorem b8c (args:List D) (h:Hp):R1 a5b args h=R a5b args h:=r1 _ (by kernel_rfl) (by decide) _ _
theorem b8b (args:List D) (h:Hp):R1 a5K args h=R a5K args h:=r1 _ (by kernel_rfl) (by decide) _ _
theorem c4p (args:List D) (h:Hp):R1 a5a args h=R a5a args h:=r1 _ (by kernel_rfl) (by decide) _ _
theorem b8d (args:List D) (h:Hp):R1 a5c args h=R a5c args h:=r1 _ (by kernel_rfl) (by decide) _ _
theorem c4q (args:List D) (h:Hp):R1 b0i args h=R b0i args h:=r1 _ (by kernel_rfl) (by decide) _ _
theorem c4r (args:List D) (h:Hp):R1 a7Q args h=R a7Q args h:=r1 _ (by kernel_rfl) (by decide) _ _
theorem c4s (args:List D) (h:Hp):R1 b0j args h=R b0j args h:=r1 _ (by kernel_rfl) (by decide) _ _
theorem c4t (args:List D) (h:Hp):R1 b0k args h=R b0k args h:=r1 _ (by kernel_rfl) (by decide) _ _
theorem c4u (args:List D) (h:Hp):R1 b0l args h=R b0l args h:=r1 _ (by kernel_rfl) (by decide) _ _
end Go.Proofs.YtehgglgadbmecaaGreatDoor

set_option linter.unusedSimpArgs false
set_option linter.unusedVariables false
set_option linter.unnecessarySimpa false
set_option maxRecDepth 100000
namespace Go.Proofs.YtehgglgadbmecaaGreatDoor
open Go.Eng Go.Pi
noncomputable def b9v (t0 t1 t2:D) (h:Hp):Option (D × Hp) :=
 (R1 a5H [] h).bind fun p13=>(dUn .not p13.1).bind fun t14=>dIf t14
  (some (a0i [.bool false],p13.2))
  ((R1 a5I [t0] p13.2).bind fun p17=>(a0D 0 p17.1).bind fun t18=>(a0D 1 p17.1).bind fun t19=>(a0D 2 p17.1).bind fun t20=>(a0D 3 p17.1).bind fun t21=>(R1 a7L [t18,t19] p17.2).bind fun p24=>(a0w tab a0t p24.1).bind fun t26=>(b4K (.int .i64 1) t26).bind fun t27=>(a1B tab ty5 ty3 t1).bind fun t29=>(a0j tab .rem ty3 t29 (.int .i64 20)).bind fun t30=>(a0j tab .add ty3 t27 t30).bind fun t31=>(R1 a7P [t31,t18,t19] p24.2).bind fun p35=>(a1B tab ty5 ty3 t2).bind fun t37=>(R1 a5b [p35.1,t37] p35.2).bind fun p38=>(a1B tab ty5 ty3 t2).bind fun t41=>(R1 a5K [p24.1,t41] p38.2).bind fun p42=>(R1 a5J [p38.1,p42.1] p42.2).bind fun p43=>some (a0i [p43.1],p43.2))
theorem c3d (t0 t1 t2:D) (h:Hp):R1 b2v [t0,t1,t2] h=b9v t0 t1 t2 h :=
 er1 i3 (by kernel_rfl) (by kernel_rfl)
noncomputable def b4d (t5m t6m t7m:D) (ds:List D) (h_1:Hp):Option Out :=
 (a0w tab a3Y t6m).bind fun t24=>(a0j tab .lss ty3 (nth 3 ds) t24).bind fun t25=>dIf t25
  ((a0a tab a3Y t6m (nth 3 ds)).bind fun t31=>(a0c tab h_1 a0R t31).bind fun t32=>(R1 a5a [t5m,t32] h_1).bind fun p33=>(a0a tab a3Y t6m (nth 3 ds)).bind fun t39=>(a0b tab a0R 6 t39).bind fun t40=>(a0c tab p33.2 ty3 t40).bind fun t41=>(R1 a5c [nth 1 ds,t7m,p33.1,t41] p33.2).bind fun p42=>(a0a tab a3Y t6m (nth 3 ds)).bind fun t48=>(a0b tab a0R 6 t48).bind fun t49=>(a0c tab p42.2 ty3 t49).bind fun t50=>chk (a0c tab p33.2 ty3 t49=some t50)
 ((R1 b0i [nth 2 ds,t7m,p33.1,t50] p42.2).bind fun p51=>(R1 a7Q [p42.1,p51.1] p51.2).bind fun p54=>(dUn .not p54.1).bind fun t55=>dIf t55
  (some (.ret,[.bool false,p42.1,p51.1,nth 3 ds,p33.1,t25,t55],p54.2))
  ((a0j tab .add ty3 (nth 3 ds) (.int .i64 1)).bind fun t27=>some (.nrm,[nth 0 ds,p42.1,p51.1,t27,p33.1,t25,t55],p54.2))))
  (some ((.ext 0),[nth 0 ds,nth 1 ds,nth 2 ds,nth 3 ds,nth 4 ds,t25,nth 6 ds],h_1))
noncomputable def c2a (t0 t1:D) (h:Hp):Option (D × Hp) :=
 (R1 a5H [] h).bind fun p13=>(dUn .not p13.1).bind fun t14=>dIf t14
  (some (a0i [.bool false],p13.2))
  ((R1 a5I [t0] p13.2).bind fun p17=>(a0D 0 p17.1).bind fun t18=>(a0D 1 p17.1).bind fun t19=>(a0D 2 p17.1).bind fun t20=>(a0D 3 p17.1).bind fun t21=>((a0B (b4d t18 t19 t20) [.bool false,.nils,.nils,.int .i64 0,.any,.any,.any] p17.2).bind fun r=>some ((a0v 0 r.1),[nth 0 r.2.1,nth 1 r.2.1,nth 2 r.2.1,nth 3 r.2.1,nth 4 r.2.1,nth 5 r.2.1,nth 6 r.2.1],r.2.2)).bind fun r_1=>a0z r_1.1 ((R1 a7P [t20,t18,t19] r_1.2.2).bind fun p59=>(R1 a7Q [p59.1,nth 2 r_1.2.1] p59.2).bind fun p61=>(gd p61.1 true (some (nth 2 r_1.2.1))).bind fun t63=>(gdW p61.1 true p61.2 (R1 b0j [t63] p61.2)).bind fun p64=>(gd p61.1 true (some (nth 2 r_1.2.1))).bind fun t65=>(gdW p61.1 true p64.2 (R1 b0k [t65] p64.2)).bind fun p66=>(gd p61.1 true (a0j tab .eql ty3 p64.1 p66.1)).bind fun t67=>(a1g p61.1 t67 (.bool false)).bind fun t68=>(gd t68 true (some (nth 2 r_1.2.1))).bind fun t70=>(gd t68 true (some t1)).bind fun t71=>(gdW t68 true p66.2 (R1 a5b [t70,t71] p66.2)).bind fun p72=>(gd t68 true (some (nth 2 r_1.2.1))).bind fun t73=>(gd t68 true (some t1)).bind fun t74=>(gdW t68 true p72.2 (R1 b0l [t73,t74] p72.2)).bind fun p75=>(gdW t68 true p75.2 (R1 a5J [p72.1,p75.1] p75.2)).bind fun p76=>(a1g t68 p76.1 (.bool false)).bind fun t77=>some (a0i [t77],p76.2)) fun x=>a0H x (some (a0i [nth 0 r_1.2.1],r_1.2.2)))
theorem c6x (t0 t1:D) (h:Hp):R1 c0t [t0,t1] h=c2a t0 t1 h :=
 er1 i4 (by kernel_rfl) (by kernel_rfl)
noncomputable def a9s (t0 t1 t10m t11:D) (ds:List D) (h_1:Hp):Option Out :=
 (a0j tab .lss ty3 (nth 2 ds) t11).bind fun t13=>dIf t13
  ((a0a tab a3Y t10m (nth 2 ds)).bind fun t14=>(a0c tab h_1 a0R t14).bind fun t15=>(a7s 10 t15).bind fun t9=>(a0c tab h_1 a0R t9).bind fun t19=>(R1 b0n [t1,t19] h_1).bind fun p20=>(a0b tab a0R 6 t9).bind fun t21=>(a0c tab p20.2 ty3 t21).bind fun t22=>(R1 a5c [nth 0 ds,t0,p20.1,t22] p20.2).bind fun p23=>chk (a0c tab h_1 ty3 t21=some t22)
 ((a0j tab .add ty3 (nth 2 ds) (.int .i64 1)).bind fun t24=>some (.nrm,[p23.1,t9,t24,t13],p23.2)))
  (some ((.ext 0),[nth 0 ds,nth 1 ds,nth 2 ds,t13],h_1))
noncomputable def b9x (t0 t1 t2:D) (h:Hp):Option (D × Hp) :=
 (a0w tab a3Y t2).bind fun t11=>((a0B (a9s t0 t1 t2 t11) [.nils,.any,.int .i64 0,.any] h).bind fun r=>some ((a0v 0 r.1),[nth 0 r.2.1,nth 1 r.2.1,nth 2 r.2.1,nth 3 r.2.1],r.2.2)).bind fun r_1=>a0z r_1.1 (some (a0i [nth 0 r_1.2.1],r_1.2.2)) fun x=>a0H x (some (a0i [.nils],r_1.2.2))
theorem c3f (t0 t1 t2:D) (h:Hp):R1 a7P [t0,t1,t2] h=b9x t0 t1 t2 h :=
 er1 i10 (by kernel_rfl) (by kernel_rfl)
noncomputable def a9t (t3 t10m t11:D) (ds:List D) (h_1:Hp):Option Out :=
 (a0j tab .lss ty3 (nth 3 ds) t11).bind fun t13=>dIf t13
  ((a0a tab a0E t10m (nth 3 ds)).bind fun t14=>(a0c tab h_1 ty9 t14).bind fun t15=>(a0c tab h_1 a0R t3).bind fun t17=>(R1 a7V [t17,t15] h_1).bind fun p19=>(a0D 0 p19.1).bind fun t20=>(a0D 1 p19.1).bind fun t21=>(a0A tab a0E 1 [0] [t20]).bind fun t24=>(a0p tab p19.2 a0E a0E (nth 0 ds) t24).bind fun p25=>(a0j tab .add ty3 (nth 3 ds) (.int .i64 1)).bind fun t26=>some (.nrm,[p25.1,t15,t20,t26,t13],p25.2))
  (some ((.ext 0),[nth 0 ds,nth 1 ds,nth 2 ds,nth 3 ds,t13],h_1))
noncomputable def b9A (t0 t1:D) (h:Hp):Option (D × Hp) :=
 (a1H t1).bind fun t3=>(a0w tab a0E t0).bind fun t11=>((a0B (a9t t3 t0 t11) [.nils,.any,.any,.int .i64 0,.any] h).bind fun r=>some ((a0v 0 r.1),[nth 0 r.2.1,nth 1 r.2.1,nth 2 r.2.1,nth 3 r.2.1,nth 4 r.2.1],r.2.2)).bind fun r_1=>a0z r_1.1 (scope h r_1.2.2 (a0i [nth 0 r_1.2.1])) fun x=>a0H x (scope h r_1.2.2 (a0i [.nils]))
theorem c3k (t0 t1:D) (h:Hp):R1 b0n [t0,t1] h=b9A t0 t1 h :=
 er1 i35 (by kernel_rfl) (by kernel_rfl)
end Go.Proofs.YtehgglgadbmecaaGreatDoor
