/- Functions as Lean functions on data. -/
import Derived.Test.YtehgglgadbmecaaGreatDoorC1
set_option linter.unusedSimpArgs false
set_option linter.unusedVariables false
set_option linter.unnecessarySimpa false
set_option maxRecDepth 100000
namespace Go.Proofs.YtehgglgadbmecaaGreatDoor
open Go.Eng Go.Pi
noncomputable def b4b (t0 t1:D) (ds:List D) (h_1:Hp):Option Out :=
 (a0w tab a0E t0).bind fun t14=>(a0j tab .lss ty3 (nth 3 ds) t14).bind fun t15=>(gd t15 false (some (nth 4 ds))).bind fun t17=>(gd t15 false (some t1)).bind fun t18=>(gd t15 false (a0w tab a0E t18)).bind fun t19=>(gd t15 false (a0j tab .lss ty3 t17 t19)).bind fun t20=>(a1g t15 (.bool true) t20).bind fun t21=>dIf t21
  ((a0w tab a0E t1).bind fun t46=>(a0j tab .eql ty3 (nth 4 ds) t46).bind fun t47=>(gd t47 false (some (nth 3 ds))).bind fun t49=>(gd t47 false (some t0)).bind fun t50=>(gd t47 false (a0w tab a0E t50)).bind fun t51=>(gd t47 false (a0j tab .lss ty3 t49 t51)).bind fun t52=>(gd t47 false (some t52)).bind fun t53=>(gd t53 true (some t0)).bind fun t54=>(gd t53 true (some (nth 3 ds))).bind fun t55=>(gd t53 true (a0a tab a0E t54 t55)).bind fun t56=>(gd t53 true (a0c tab h_1 ty9 t56)).bind fun t57=>(gd t53 true (some t1)).bind fun t58=>(gd t53 true (some (nth 4 ds))).bind fun t59=>(gd t53 true (a0a tab a0E t58 t59)).bind fun t60=>(gd t53 true (a0c tab h_1 ty9 t60)).bind fun t61=>(gd t53 true (a0j tab .lss ty9 t57 t61)).bind fun t62=>(gd t47 false (a1g t53 t62 (.bool false))).bind fun t63=>(a1g t47 (.bool true) t63).bind fun t64=>(dIf t64
  ((a0w tab a0E (nth 0 ds)).bind fun t67=>(a0A tab a0V 1 [0] [t67]).bind fun t68=>(a0p tab h_1 a0V a0V (nth 1 ds) t68).bind fun p69=>(a0a tab a0E t0 (nth 3 ds)).bind fun t73=>(a0c tab p69.2 ty9 t73).bind fun t74=>(a0A tab a0E 1 [0] [t74]).bind fun t75=>(a0p tab p69.2 a0E a0E (nth 0 ds) t75).bind fun p76=>(a0j tab .add ty3 (nth 3 ds) (.int .i64 1)).bind fun t78=>some (.nrm,[p76.1,p69.1,nth 2 ds,t78,nth 4 ds,nth 7 ds],p76.2))
  ((a0w tab a0E t0).bind fun t82=>(a0j tab .eql ty3 (nth 3 ds) t82).bind fun t83=>(gd t83 false (some t1)).bind fun t85=>(gd t83 false (some (nth 4 ds))).bind fun t86=>(gd t83 false (a0a tab a0E t85 t86)).bind fun t87=>(gd t83 false (a0c tab h_1 ty9 t87)).bind fun t88=>(gd t83 false (some t0)).bind fun t89=>(gd t83 false (some (nth 3 ds))).bind fun t90=>(gd t83 false (a0a tab a0E t89 t90)).bind fun t91=>(gd t83 false (a0c tab h_1 ty9 t91)).bind fun t92=>(gd t83 false (a0j tab .lss ty9 t88 t92)).bind fun t93=>(a1g t83 (.bool true) t93).bind fun t94=>(dIf t94
  ((a0w tab a0E (nth 0 ds)).bind fun t97=>(a0A tab a0V 1 [0] [t97]).bind fun t98=>(a0p tab h_1 a0V a0V (nth 2 ds) t98).bind fun p99=>(a0a tab a0E t1 (nth 4 ds)).bind fun t103=>(a0c tab p99.2 ty9 t103).bind fun t104=>(a0A tab a0E 1 [0] [t104]).bind fun t105=>(a0p tab p99.2 a0E a0E (nth 0 ds) t105).bind fun p106=>(a0j tab .add ty3 (nth 4 ds) (.int .i64 1)).bind fun t108=>some (.nrm,[p106.1,nth 1 ds,p99.1,nth 3 ds,t108],p106.2))
  ((a0w tab a0E (nth 0 ds)).bind fun t24=>(a0A tab a0V 1 [0] [t24]).bind fun t25=>(a0p tab h_1 a0V a0V (nth 1 ds) t25).bind fun p26=>(a0w tab a0E (nth 0 ds)).bind fun t29=>(a0A tab a0V 1 [0] [t29]).bind fun t30=>(a0p tab p26.2 a0V a0V (nth 2 ds) t30).bind fun p31=>(a0a tab a0E t0 (nth 3 ds)).bind fun t35=>(a0c tab p31.2 ty9 t35).bind fun t36=>(a0A tab a0E 1 [0] [t36]).bind fun t37=>(a0p tab p31.2 a0E a0E (nth 0 ds) t37).bind fun p38=>(a0j tab .add ty3 (nth 3 ds) (.int .i64 1)).bind fun t40=>(a0j tab .add ty3 (nth 4 ds) (.int .i64 1)).bind fun t42=>some (.nrm,[p38.1,p26.1,p31.1,t40,t42],p38.2))).bind fun r_1=>some (r_1.1,[nth 0 r_1.2.1,nth 1 r_1.2.1,nth 2 r_1.2.1,nth 3 r_1.2.1,nth 4 r_1.2.1,t94],r_1.2.2))).bind fun r_2=>some ((a0v 1 (a0v 2 r_2.1)),[nth 0 r_2.2.1,nth 1 r_2.2.1,nth 2 r_2.2.1,nth 3 r_2.2.1,nth 4 r_2.2.1,t21,t64,nth 5 r_2.2.1],r_2.2.2))
  (some ((.ext 0),[nth 0 ds,nth 1 ds,nth 2 ds,nth 3 ds,nth 4 ds,t21,nth 6 ds,nth 7 ds],h_1))
noncomputable def c1X (t0 t1:D) (h:Hp):Option (D × Hp) :=
 ((a0B (b4b t0 t1) [.nils,.nils,.nils,.int .i64 0,.int .i64 0,.any,.any,.any] h).bind fun r=>some ((a0v 0 r.1),[nth 0 r.2.1,nth 1 r.2.1,nth 2 r.2.1,nth 3 r.2.1,nth 4 r.2.1,nth 5 r.2.1,nth 6 r.2.1,nth 7 r.2.1],r.2.2)).bind fun r_3=>a0z r_3.1 (scope h r_3.2.2 (a0i [nth 0 r_3.2.1,nth 1 r_3.2.1,nth 2 r_3.2.1])) fun x=>a0H x (scope h r_3.2.2 (a0i [.nils,.nils,.nils]))
theorem c6u (t0 t1:D) (h:Hp):R b6b [t0,t1] h=c1X t0 t1 h :=
 er c3W (by kernel_rfl) (by kernel_rfl)
noncomputable def b4c (r:Out) (ds:List D) (h_1:Hp):Option Out :=
 (a0w tab ty9 (nth 0 r.2.1)).bind fun t28=>(a0j tab .lss ty3 (nth 3 ds) t28).bind fun t29=>dIf t29
  ((a5E tab ty9 (nth 0 r.2.1) (nth 3 ds)).bind fun t34=>(R b6d [t34] h_1).bind fun p35=>(dUn .not p35.1).bind fun t36=>dIf t36
  (some (.ret,[.int .i64 0,.bool false,nth 2 ds,nth 3 ds,t29,t36],p35.2))
  ((a0j tab .mul ty3 (.int .i64 10) (nth 2 ds)).bind fun t38=>(a5E tab ty9 (nth 0 r.2.1) (nth 3 ds)).bind fun t41=>(a0j tab .sub ty5 t41 (.int .u8 48)).bind fun t42=>(a1B tab ty5 ty3 t42).bind fun t43=>(a0j tab .add ty3 t38 t43).bind fun t44=>(a0j tab .add ty3 (nth 3 ds) (.int .i64 1)).bind fun t31=>some (.nrm,[nth 0 ds,nth 1 ds,t44,t31,t29,t36],p35.2)))
  (some ((.ext 0),[nth 0 ds,nth 1 ds,nth 2 ds,nth 3 ds,t29,nth 5 ds],h_1))
noncomputable def c1Y (t0:D) (h:Hp):Option (D × Hp) :=
 (a0w tab ty9 t0).bind fun t9=>(a0j tab .gtr ty3 t9 (.int .i64 0)).bind fun t10=>(gd t10 true (some t0)).bind fun t12=>(gd t10 true (a5E tab ty9 t12 (.int .i64 0))).bind fun t13=>(gd t10 true (a0j tab .eql ty5 t13 (.int .u8 45))).bind fun t14=>(a1g t10 t14 (.bool false)).bind fun t15=>(dIf t15
  ((a0y tab ty9 true false false [t0,.int .i64 1]).bind fun t17=>some (.nrm,[t17],h))
  (some (.nrm,[t0],h))).bind fun r=>a0z r.1 ((a0w tab ty9 (nth 0 r.2.1)).bind fun t19=>(a0j tab .lss ty3 t19 (.int .i64 1)).bind fun t20=>(gd t20 false (some (nth 0 r.2.1))).bind fun t22=>(gd t20 false (a0w tab ty9 t22)).bind fun t23=>(gd t20 false (a0j tab .gtr ty3 t23 (.int .i64 18))).bind fun t24=>(a1g t20 (.bool true) t24).bind fun t25=>dIf t25
  (some (a0i [.int .i64 0,.bool false],r.2.2))
  (((a0B (b4c r) [.int .i64 0,.bool false,.int .i64 0,.int .i64 0,.any,.any] r.2.2).bind fun r_1=>some ((a0v 0 r_1.1),[nth 0 r_1.2.1,nth 1 r_1.2.1,nth 2 r_1.2.1,nth 3 r_1.2.1,nth 4 r_1.2.1,nth 5 r_1.2.1],r_1.2.2)).bind fun r_2=>a0z r_2.1 ((a0w tab ty9 (nth 0 r.2.1)).bind fun t46=>(a0w tab ty9 t0).bind fun t48=>(a0j tab .lss ty3 t46 t48).bind fun t49=>(dIf t49
  ((dUn .neg (nth 2 r_2.2.1)).bind fun t51=>some (.nrm,[t51],r_2.2.2))
  (some (.nrm,[nth 2 r_2.2.1],r_2.2.2))).bind fun r_3=>a0z r_3.1 (some (a0i [nth 0 r_3.2.1,.bool true],r_3.2.2)) fun x_2=>a0H x_2 (some (a0i [nth 0 r_2.2.1,nth 1 r_2.2.1],r_3.2.2))) fun x_1=>a0H x_1 (some (a0i [nth 0 r_2.2.1,nth 1 r_2.2.1],r_2.2.2)))) fun x=>a0H x (some (a0i [.int .i64 0,.bool false],r.2.2))
theorem c6v (t0:D) (h:Hp):R b6c [t0] h=c1Y t0 h :=
 er c3X (by kernel_rfl) (by kernel_rfl)
noncomputable def c1Z (t0:D) (h:Hp):Option (D × Hp) :=
 (a0j tab .geq ty5 t0 (.int .u8 48)).bind fun t4=>(gd t4 true (some t0)).bind fun t6=>(gd t4 true (a0j tab .leq ty5 t6 (.int .u8 57))).bind fun t7=>(a1g t4 t7 (.bool false)).bind fun t8=>some (a0i [t8],h)
theorem c6w (t0:D) (h:Hp):R b6d [t0] h=c1Z t0 h :=
 er c3Y (by kernel_rfl) (by kernel_rfl)
end Go.Proofs.YtehgglgadbmecaaGreatDoor
