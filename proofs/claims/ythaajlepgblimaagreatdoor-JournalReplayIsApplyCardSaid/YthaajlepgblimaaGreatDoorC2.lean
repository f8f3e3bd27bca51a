/- Functions as Lean functions on data. -/
import Derived.Test.YthaajlepgblimaaGreatDoorC1
set_option linter.unusedSimpArgs false
set_option linter.unusedVariables false
set_option linter.unnecessarySimpa false
set_option maxRecDepth 100000
namespace Go.Proofs.YthaajlepgblimaaGreatDoor
open Go.Eng Go.Pi
noncomputable def b3f (t1 t2 t22 t23:D) (ds:List D) (h_1:Hp):Option Out :=
 (a0i tab .lss ty3 (nth 5 ds) t23).bind fun t25=>dIf t25
  ((a0b tab a1j t22 (nth 5 ds)).bind fun t27=>(a0c tab h_1 a1Z t27).bind fun t28=>(some ((.ptr h_1.length 0 0:D),a0C h_1 a1Z 3 [[.int .i64 0,.int .i64 0,.str []]])).bind fun p7=>((a0p tab p7.2 a1Z p7.1 t28).bind fun h'=>some ((.und:D),h')).bind fun p905=>(a0a tab a0y 4 t2).bind fun t30=>(a0c tab p905.2 a1j t30).bind fun t31=>(a0t tab a1j t31).bind fun t32=>(a0i tab .sub ty3 t32 (.int .i64 1)).bind fun t33=>(a0i tab .eql ty3 (nth 5 ds) t33).bind fun t34=>(a0a tab a1Z 0 p7.1).bind fun t35=>(a0c tab p905.2 ty3 t35).bind fun t36=>(a0i tab .neq ty3 t36 (nth 1 ds)).bind fun t38=>(gd t38 false (a0a tab a1Z 1 p7.1)).bind fun t40=>(gd t38 false (a0c tab p905.2 ty3 t40)).bind fun t41=>(gd t38 false (a0i tab .lss ty3 t41 (.int .i64 1))).bind fun t42=>(a0R t38 (.bool true) t42).bind fun t43=>(gd t43 false (a0a tab a1Z 1 p7.1)).bind fun t45=>(gd t43 false (a0c tab p905.2 ty3 t45)).bind fun t46=>(gd t43 false (a0a tab a0y 3 t2)).bind fun t47=>(gd t43 false (a0c tab p905.2 ty3 t47)).bind fun t48=>(gd t43 false (some (nth 1 ds))).bind fun t49=>(gd t43 false (a0i tab .sub ty3 t48 t49)).bind fun t50=>(gd t43 false (a0i tab .gtr ty3 t46 t50)).bind fun t51=>(a0R t43 (.bool true) t51).bind fun t52=>(gd t52 false (some t34)).bind fun t54=>(gd t52 false (some t54)).bind fun t55=>(gd t55 true (a0a tab a1Z 1 p7.1)).bind fun t56=>(gd t55 true (a0c tab p905.2 ty3 t56)).bind fun t57=>(gd t55 true (a0a tab a0y 3 t2)).bind fun t58=>(gd t55 true (a0c tab p905.2 ty3 t58)).bind fun t59=>(gd t55 true (some (nth 1 ds))).bind fun t60=>(gd t55 true (a0i tab .sub ty3 t59 t60)).bind fun t61=>(gd t55 true (a0i tab .lss ty3 t57 t61)).bind fun t62=>(gd t52 false (a0R t55 t62 (.bool false))).bind fun t63=>(a0R t52 (.bool true) t63).bind fun t64=>dIf t64
  (some (.ret,[.int .i64 19,nth 1 ds,nth 5 ds,p7.1,t34,nth 5 ds,t25,t64,nth 8 ds],p905.2))
  ((a0a tab a1Z 2 p7.1).bind fun t65=>(a0c tab p905.2 ty9 t65).bind fun t66=>(a0t tab ty9 t66).bind fun t67=>(a0i tab .gtr ty3 t67 t1).bind fun t69=>dIf t69
  (some (.ret,[.int .i64 3,nth 1 ds,nth 5 ds,p7.1,t34,nth 5 ds,t25,t64,t69],p905.2))
  ((a0a tab a1Z 1 p7.1).bind fun t71=>(a0c tab p905.2 ty3 t71).bind fun t72=>(a0i tab .add ty3 (nth 1 ds) t72).bind fun t73=>(a0i tab .add ty3 (nth 5 ds) (.int .i64 1)).bind fun t74=>some (.nrm,[nth 0 ds,t73,nth 5 ds,p7.1,t34,t74,t25,t64,t69],p905.2))))
  (some ((.ext 1),[nth 0 ds,nth 1 ds,nth 2 ds,nth 3 ds,nth 4 ds,nth 5 ds,t25,nth 7 ds,nth 8 ds],h_1))
noncomputable def c6l (t0 t1:D) (h:Hp):Option (D × Hp) :=
 (a1B t0).bind fun t2=>(a0a tab a0y 4 t2).bind fun t10=>(a0c tab h a1j t10).bind fun t11=>(a0t tab a1j t11).bind fun t12=>(a0i tab .eql ty3 t12 (.int .i64 0)).bind fun t13=>dIf t13
  (scope h h (a0f [.int .i64 9]))
  ((a0a tab a0y 4 t2).bind fun t15=>(a0c tab h a1j t15).bind fun t16=>(a0t tab a1j t16).bind fun t17=>(a0i tab .gtr ty3 t17 (.int .i64 40)).bind fun t18=>dIf t18
  (scope h h (a0f [.int .i64 4]))
  ((a0a tab a0y 2 t2).bind fun t19=>(a0c tab h ty3 t19).bind fun t20=>(a0a tab a0y 4 t2).bind fun t21=>(a0c tab h a1j t21).bind fun t22=>(a0t tab a1j t22).bind fun t23=>((a0J (b3f t1 t2 t22 t23) [.int .i64 0,t20,.any,.any,.any,.int .i64 0,.any,.any,.any] h).bind fun r=>some ((a0G 1 r.1),[nth 0 r.2.1,nth 1 r.2.1,nth 2 r.2.1,nth 3 r.2.1,nth 4 r.2.1,nth 5 r.2.1,nth 6 r.2.1,nth 7 r.2.1,nth 8 r.2.1],r.2.2)).bind fun r_1=>a0K r_1.1 (scope h r_1.2.2 (a0f [.int .i64 0])) fun x=>a1c x (scope h r_1.2.2 (a0f [nth 0 r_1.2.1]))))
theorem d1F (t0 t1:D) (h:Hp):R b4o [t0,t1] h=c6l t0 t1 h :=
 er i92 (by kernel_rfl) (by kernel_rfl)
noncomputable def c6m (t0 t1:D) (h:Hp):Option (D × Hp) :=
 (R b4e [t0,t1] h).bind fun p7=>(a0i tab .geq ty3 p7.1 (.int .i64 0)).bind fun t8=>some (a0f [t8],p7.2)
theorem d1G (t0 t1:D) (h:Hp):R b7z [t0,t1] h=c6m t0 t1 h :=
 er i93 (by kernel_rfl) (by kernel_rfl)
noncomputable def c6n (t0:D) (h:Hp):Option (D × Hp) :=
 (a1B t0).bind fun t1=>(a0a tab a1Z 2 t1).bind fun t3=>(a0c tab h ty9 t3).bind fun t4=>(a0i tab .neq ty9 t4 (.str [])).bind fun t5=>some (a0f [t5],h)
theorem d1H (t0:D) (h:Hp):R b1b [t0] h=c6n t0 h :=
 er i94 (by kernel_rfl) (by kernel_rfl)
noncomputable def b2X (t5m:D) (ds:List D) (h_1:Hp):Option Out :=
 (a0t tab a1p t5m).bind fun t57=>(a0i tab .lss ty3 (nth 1 ds) t57).bind fun t58=>dIf t58
  ((a0b tab a1p t5m (nth 1 ds)).bind fun t63=>(a0a tab a0T 1 t63).bind fun t64=>(a0c tab h_1 ty9 t64).bind fun t65=>(a0t tab ty9 t65).bind fun t66=>(a0i tab .gtr ty3 t66 (.int .i64 2000)).bind fun t67=>dIf t67
  (some (.ret,[.int .i64 3,nth 1 ds,t58,t67],h_1))
  ((a0i tab .add ty3 (nth 1 ds) (.int .i64 1)).bind fun t60=>some (.nrm,[nth 0 ds,t60,t58,t67],h_1)))
  (some ((.ext 0),[nth 0 ds,nth 1 ds,t58,nth 3 ds],h_1))
noncomputable def c5Q (t0:D) (h:Hp):Option (D × Hp) :=
 (a1B t0).bind fun t1=>(a0c tab h a0y t1).bind fun t8=>(R b4f [t8] h).bind fun p9=>(a0i tab .neq a5J p9.1 (.int .i64 0)).bind fun t11=>(gd t11 false (a0a tab a0y 5 t1)).bind fun t13=>(gd t11 false (a0c tab p9.2 ty3 t13)).bind fun t14=>(gd t11 false (a0i tab .lss ty3 t14 (.int .i64 0))).bind fun t15=>(a0R t11 (.bool true) t15).bind fun t16=>(gd t16 false (a0a tab a0y 5 t1)).bind fun t18=>(gd t16 false (a0c tab p9.2 ty3 t18)).bind fun t19=>(gd t16 false (a0i tab .gtr ty3 t19 (.int .i64 253402300799999))).bind fun t20=>(a0R t16 (.bool true) t20).bind fun t21=>dIf t21
  (some (a0f [.int .i64 2],p9.2))
  ((a0a tab a0y 6 t1).bind fun t22=>(a0c tab p9.2 ty3 t22).bind fun t23=>(R b7p [t23] p9.2).bind fun p24=>(dUn .not p24.1).bind fun t25=>dIf t25
  (some (a0f [.int .i64 21],p24.2))
  ((a0c tab p24.2 a0y t1).bind fun t26=>(R b4g [t26,.int .i64 2000] p24.2).bind fun p27=>(a0i tab .neq a5J p27.1 (.int .i64 0)).bind fun t29=>dIf t29
  (some (a0f [p27.1],p27.2))
  ((a0a tab a0y 7 t1).bind fun t31=>(a0c tab p27.2 ty9 t31).bind fun t32=>(a0t tab ty9 t32).bind fun t33=>(a0i tab .gtr ty3 t33 (.int .i64 32)).bind fun t34=>(gd t34 false (a0a tab a0y 8 t1)).bind fun t36=>(gd t34 false (a0c tab p27.2 ty9 t36)).bind fun t37=>(gd t34 false (a0t tab ty9 t37)).bind fun t38=>(gd t34 false (a0i tab .gtr ty3 t38 (.int .i64 32))).bind fun t39=>(a0R t34 (.bool true) t39).bind fun t40=>dIf t40
  (some (a0f [.int .i64 3],p27.2))
  ((a0a tab a0y 9 t1).bind fun t42=>(a0c tab p27.2 a1p t42).bind fun t43=>(R b4h [t43] p27.2).bind fun p44=>(a0w 0 p44.1).bind fun t45=>(a0w 1 p44.1).bind fun t46=>(a0i tab .neq a5J t46 (.int .i64 0)).bind fun t48=>dIf t48
  (some (a0f [t46],p44.2))
  ((a0a tab a0y 9 t1).bind fun t51=>(a0c tab p44.2 a1p t51).bind fun t52=>(R d4e [t45,t52] p44.2).bind fun p53=>(dUn .not p53.1).bind fun t54=>dIf t54
  (some (a0f [.int .i64 19],p53.2))
  (((a0J (b2X t45) [.int .i64 0,.int .i64 0,.any,.any] p53.2).bind fun r=>some ((a0G 0 r.1),[nth 0 r.2.1,nth 1 r.2.1,nth 2 r.2.1,nth 3 r.2.1],r.2.2)).bind fun r_1=>a0K r_1.1 (some (a0f [.int .i64 0],r_1.2.2)) fun x=>a1c x (some (a0f [nth 0 r_1.2.1],r_1.2.2))))))))
theorem d1f (t0:D) (h:Hp):R b7o [t0] h=c5Q t0 h :=
 er i95 (by kernel_rfl) (by kernel_rfl)
noncomputable def c5R (t0:D) (h:Hp):Option (D × Hp) :=
 (a1B t0).bind fun t1=>(a0a tab a0y 0 t1).bind fun t3=>(a0c tab h ty3 t3).bind fun t4=>(a0i tab .lss ty3 t4 (.int .i64 0)).bind fun t5=>(gd t5 false (a0a tab a0y 0 t1)).bind fun t7=>(gd t5 false (a0c tab h ty3 t7)).bind fun t8=>(gd t5 false (a0i tab .gtr ty3 t8 (.int .i64 999))).bind fun t9=>(a0R t5 (.bool true) t9).bind fun t10=>(gd t10 false (a0a tab a0y 1 t1)).bind fun t12=>(gd t10 false (a0c tab h ty3 t12)).bind fun t13=>(gd t10 false (a0i tab .lss ty3 t13 (.int .i64 0))).bind fun t14=>(a0R t10 (.bool true) t14).bind fun t15=>(gd t15 false (a0a tab a0y 1 t1)).bind fun t17=>(gd t15 false (a0c tab h ty3 t17)).bind fun t18=>(gd t15 false (a0i tab .gtr ty3 t18 (.int .i64 2147483646))).bind fun t19=>(a0R t15 (.bool true) t19).bind fun t20=>(gd t20 false (a0a tab a0y 2 t1)).bind fun t22=>(gd t20 false (a0c tab h ty3 t22)).bind fun t23=>(gd t20 false (a0i tab .lss ty3 t23 (.int .i64 0))).bind fun t24=>(a0R t20 (.bool true) t24).bind fun t25=>(gd t25 false (a0a tab a0y 3 t1)).bind fun t27=>(gd t25 false (a0c tab h ty3 t27)).bind fun t28=>(gd t25 false (a0a tab a0y 2 t1)).bind fun t29=>(gd t25 false (a0c tab h ty3 t29)).bind fun t30=>(gd t25 false (a0i tab .leq ty3 t28 t30)).bind fun t31=>(a0R t25 (.bool true) t31).bind fun t32=>(gd t32 false (a0a tab a0y 3 t1)).bind fun t34=>(gd t32 false (a0c tab h ty3 t34)).bind fun t35=>(gd t32 false (a0i tab .gtr ty3 t35 (.int .i64 60000))).bind fun t36=>(a0R t32 (.bool true) t36).bind fun t37=>dIf t37
  (some (a0f [.int .i64 2],h))
  (some (a0f [.int .i64 0],h))
theorem d1g (t0:D) (h:Hp):R b4f [t0] h=c5R t0 h :=
 er i96 (by kernel_rfl) (by kernel_rfl)
noncomputable def b2Y (t1 t2:D) (ds:List D) (h_1:Hp):Option Out :=
 (a0a tab a0y 4 t2).bind fun t19=>(a0c tab h_1 a1j t19).bind fun t20=>(a0t tab a1j t20).bind fun t21=>(a0i tab .lss ty3 (nth 2 ds) t21).bind fun t22=>dIf t22
  ((a0a tab a0y 4 t2).bind fun t25=>(a0c tab h_1 a1j t25).bind fun t26=>(a0b tab a1j t26 (nth 2 ds)).bind fun t28=>(a0c tab h_1 a1Z t28).bind fun t29=>(a5U 3 t29).bind fun t7=>(a0a tab a1Z 0 t7).bind fun t30=>(a0c tab h_1 ty3 t30).bind fun t31=>(a0i tab .neq ty3 t31 (nth 1 ds)).bind fun t33=>(gd t33 false (a0a tab a1Z 1 t7)).bind fun t35=>(gd t33 false (a0c tab h_1 ty3 t35)).bind fun t36=>(gd t33 false (a0i tab .lss ty3 t36 (.int .i64 1))).bind fun t37=>(a0R t33 (.bool true) t37).bind fun t38=>(gd t38 false (a0a tab a1Z 1 t7)).bind fun t40=>(gd t38 false (a0c tab h_1 ty3 t40)).bind fun t41=>(gd t38 false (a0a tab a0y 3 t2)).bind fun t42=>(gd t38 false (a0c tab h_1 ty3 t42)).bind fun t43=>(gd t38 false (some (nth 1 ds))).bind fun t44=>(gd t38 false (a0i tab .sub ty3 t43 t44)).bind fun t45=>(gd t38 false (a0i tab .gtr ty3 t41 t45)).bind fun t46=>(a0R t38 (.bool true) t46).bind fun t47=>(gd t47 false (some (nth 2 ds))).bind fun t49=>(gd t47 false (a0a tab a0y 4 t2)).bind fun t50=>(gd t47 false (a0c tab h_1 a1j t50)).bind fun t51=>(gd t47 false (a0t tab a1j t51)).bind fun t52=>(gd t47 false (a0i tab .sub ty3 t52 (.int .i64 1))).bind fun t53=>(gd t47 false (a0i tab .eql ty3 t49 t53)).bind fun t54=>(gd t47 false (some t54)).bind fun t55=>(gd t55 true (a0a tab a1Z 1 t7)).bind fun t56=>(gd t55 true (a0c tab h_1 ty3 t56)).bind fun t57=>(gd t55 true (a0a tab a0y 3 t2)).bind fun t58=>(gd t55 true (a0c tab h_1 ty3 t58)).bind fun t59=>(gd t55 true (some (nth 1 ds))).bind fun t60=>(gd t55 true (a0i tab .sub ty3 t59 t60)).bind fun t61=>(gd t55 true (a0i tab .neq ty3 t57 t61)).bind fun t62=>(gd t47 false (a0R t55 t62 (.bool false))).bind fun t63=>(a0R t47 (.bool true) t63).bind fun t64=>dIf t64
  (some (.ret,[.int .i64 19,nth 1 ds,nth 2 ds,t7,t22,t64,nth 6 ds],h_1))
  ((a0a tab a1Z 2 t7).bind fun t65=>(a0c tab h_1 ty9 t65).bind fun t66=>(a0t tab ty9 t66).bind fun t67=>(a0i tab .gtr ty3 t67 t1).bind fun t69=>dIf t69
  (some (.ret,[.int .i64 3,nth 1 ds,nth 2 ds,t7,t22,t64,t69],h_1))
  ((a0a tab a1Z 1 t7).bind fun t71=>(a0c tab h_1 ty3 t71).bind fun t72=>(a0i tab .add ty3 (nth 1 ds) t72).bind fun t73=>(a0i tab .add ty3 (nth 2 ds) (.int .i64 1)).bind fun t24=>some (.nrm,[nth 0 ds,t73,t24,t7,t22,t64,t69],h_1))))
  (some ((.ext 0),[nth 0 ds,nth 1 ds,nth 2 ds,nth 3 ds,t22,nth 5 ds,nth 6 ds],h_1))
noncomputable def c5S (t0 t1:D) (h:Hp):Option (D × Hp) :=
 (a1B t0).bind fun t2=>(a0a tab a0y 4 t2).bind fun t8=>(a0c tab h a1j t8).bind fun t9=>(a0t tab a1j t9).bind fun t10=>(a0i tab .eql ty3 t10 (.int .i64 0)).bind fun t11=>dIf t11
  (some (a0f [.int .i64 9],h))
  ((a0a tab a0y 4 t2).bind fun t12=>(a0c tab h a1j t12).bind fun t13=>(a0t tab a1j t13).bind fun t14=>(a0i tab .gtr ty3 t14 (.int .i64 40)).bind fun t15=>dIf t15
  (some (a0f [.int .i64 4],h))
  ((a0a tab a0y 2 t2).bind fun t16=>(a0c tab h ty3 t16).bind fun t17=>((a0J (b2Y t1 t2) [.int .i64 0,t17,.int .i64 0,.any,.any,.any,.any] h).bind fun r=>some ((a0G 0 r.1),[nth 0 r.2.1,nth 1 r.2.1,nth 2 r.2.1,nth 3 r.2.1,nth 4 r.2.1,nth 5 r.2.1,nth 6 r.2.1],r.2.2)).bind fun r_1=>a0K r_1.1 (some (a0f [.int .i64 0],r_1.2.2)) fun x=>a1c x (some (a0f [nth 0 r_1.2.1],r_1.2.2))))
theorem d1h (t0 t1:D) (h:Hp):R b4g [t0,t1] h=c5S t0 t1 h :=
 er i97 (by kernel_rfl) (by kernel_rfl)
noncomputable def c6S (t0 t1:D) (h:Hp):Option (D × Hp) :=
 (a0t tab ty9 t1).bind fun t7=>(a1m tab ty3 a1h t7).bind fun t8=>(R a3N [t0,t8,.int .i64 4] h).bind fun p9=>(a0q tab p9.2 a0L ty9 p9.1 t1).bind fun p11=>some (a0f [p11.1],p11.2)
theorem d2p (t0 t1:D) (h:Hp):R a6j [t0,t1] h=c6S t0 t1 h :=
 er i98 (by kernel_rfl) (by kernel_rfl)
noncomputable def c6T (t0 t1:D) (h:Hp):Option (D × Hp) :=
 (a1m tab ty3 a1h t1).bind fun t7=>(R a3N [t0,t7,.int .i64 8] h).bind fun p8=>some (a0f [p8.1],p8.2)
theorem d2q (t0 t1:D) (h:Hp):R a4A [t0,t1] h=c6T t0 t1 h :=
 er i99 (by kernel_rfl) (by kernel_rfl)
noncomputable def c5N (t0 t1 t2:D) (h:Hp):Option (D × Hp) :=
 (a1B t0).bind fun t3=>(a0a tab a0n 0 t3).bind fun t10=>(a0c tab h a0E t10).bind fun t11=>(R a8G [t11,t1,t2] h).bind fun p14=>(a0w 0 p14.1).bind fun t15=>(a0w 1 p14.1).bind fun t16=>dIf t16
  ((a0a tab a0n 0 t3).bind fun t18=>(a0c tab p14.2 a0E t18).bind fun t19=>(a0b tab a0E t19 t15).bind fun t21=>(a0a tab a0Q 2 t21).bind fun t22=>(a0c tab p14.2 ty3 t22).bind fun t23=>some (a0f [t23],p14.2))
  (some (a0f [.int .i64 0],p14.2))
theorem d1a (t0 t1 t2:D) (h:Hp):R b7m [t0,t1,t2] h=c5N t0 t1 t2 h :=
 er d4i (by kernel_rfl) (by kernel_rfl)
noncomputable def c6I (t0 t1 t2 t3:D) (h:Hp):Option (D × Hp) :=
 (a0h tab t0).bind fun t10=>(a0a tab a1o 0 t10).bind fun t11=>(a0a tab a0n 1 t11).bind fun t12=>(a0c tab h a1C t12).bind fun t13=>(R d0s [t13,t1,t2,t3] h).bind fun p17=>(a0h tab t0).bind fun t18=>(a0a tab a1o 0 t18).bind fun t19=>(a0a tab a0n 1 t19).bind fun t20=>((a0p tab p17.2 a1C t20 p17.1).bind fun h'=>some ((.und:D),h')).bind fun p913=>some (a0f [],p913.2)
theorem d2e (t0 t1 t2 t3:D) (h:Hp):R a6i [t0,t1,t2,t3] h=c6I t0 t1 t2 t3 h :=
 er d4j (by kernel_rfl) (by kernel_rfl)
noncomputable def c5K (t0 t1:D) (h:Hp):Option (D × Hp) :=
 (b9J a0z 11 h t0).bind fun p2=>(a1B t1).bind fun t3=>(some ((.ptr p2.2.length 0 0:D),a0C p2.2 a0z 11 [[.str [],.int .i64 0,.int .i64 0,.int .i64 0,.int .i64 0,.nils,.int .i64 0,.int .i64 0,.str [],.str [],.nils]])).bind fun p4=>(a0a tab a0z 1 p2.1).bind fun t8=>(a0a tab a0y 4 t8).bind fun t9=>(a0c tab p4.2 a1j t9).bind fun t10=>(some (.fn (.func b7n) [] [t3]:D)).bind fun t12=>(R b4e [t10,t12] p4.2).bind fun p13=>(a0i tab .lss ty3 p13.1 (.int .i64 1)).bind fun t15=>dIf t15
  ((a0U tab a0z [] []).bind fun t16=>((a0p tab p13.2 a0z p4.1 t16).bind fun h'=>some ((.und:D),h')).bind fun p901=>(a0c tab p901.2 a0z p4.1).bind fun d0=>scope h p901.2 (a0f [d0,.bool false]))
  ((a0c tab p13.2 ty3 t3).bind fun t17=>(a0D tab a1j true false false [t10,p13.1]).bind fun t20=>(R a8F [t20] p13.2).bind fun p21=>(a0a tab a0z 1 p2.1).bind fun t22=>(a0a tab a0y 2 t22).bind fun t23=>((a0p tab p21.2 ty3 t23 t17).bind fun h'=>some ((.und:D),h')).bind fun p907=>(a0a tab a0z 1 p2.1).bind fun t24=>(a0a tab a0y 4 t24).bind fun t25=>((a0p tab p907.2 a1j t25 p21.1).bind fun h'=>some ((.und:D),h')).bind fun p910=>chk (a0c tab p21.2 ty3 t3=some t17)
 ((a0a tab a0z 1 p2.1).bind fun t26=>(a0a tab a0y 9 t26).bind fun t27=>(a0c tab p910.2 a1p t27).bind fun t28=>(R a7R [t28] p910.2).bind fun p29=>(a0a tab a0z 1 p2.1).bind fun t30=>(a0a tab a0y 9 t30).bind fun t31=>((a0p tab p29.2 a1p t31 p29.1).bind fun h'=>some ((.und:D),h')).bind fun p906=>(a0c tab p906.2 a0z p2.1).bind fun t32=>((a0p tab p906.2 a0z p4.1 t32).bind fun h'=>some ((.und:D),h')).bind fun p901_1=>(a0c tab p901_1.2 a0z p4.1).bind fun d0=>scope h p901_1.2 (a0f [d0,.bool true])))
theorem d0X (t0 t1:D) (h:Hp):R b4c [t0,t1] h=c5K t0 t1 h :=
 er d4k (by kernel_rfl) (by kernel_rfl)
noncomputable def c5T (t0 t1 t2:D) (h:Hp):Option (D × Hp) :=
 (a0U tab a0Q [0,1] [t1,t2]).bind fun t11=>(R b7q [t0,t11,.fn (.func b4i) [] []] h).bind fun p12=>(a0w 0 p12.1).bind fun t13=>(a0w 1 p12.1).bind fun t14=>some (a0f [t13,t14],p12.2)
theorem d1i (t0 t1 t2:D) (h:Hp):R a8G [t0,t1,t2] h=c5T t0 t1 t2 h :=
 er d4l (by kernel_rfl) (by kernel_rfl)
noncomputable def c3o (t0:D) (h:Hp):Option (D × Hp) :=
 (a0i tab .eql a1j t0 (.nils)).bind fun t4=>dIf t4
  (scope h h (a0f [.nils]))
  ((a0W tab a1j 0 [] []).bind fun t5=>(a0q tab h a1j a1j t5 t0).bind fun p7=>scope h p7.2 (a0f [p7.1]))
theorem d1d (t0:D) (h:Hp):R a8F [t0] h=c3o t0 h :=
 er d4m (by kernel_rfl) (by kernel_rfl)
noncomputable def c3p (t0:D) (h:Hp):Option (D × Hp) :=
 (a0i tab .eql a1p t0 (.nils)).bind fun t4=>dIf t4
  (some (a0f [.nils],h))
  ((a0W tab a1p 0 [] []).bind fun t5=>(a0q tab h a1p a1p t5 t0).bind fun p7=>some (a0f [p7.1],p7.2))
theorem d1e (t0:D) (h:Hp):R a7R [t0] h=c3p t0 h :=
 er d4o (by kernel_rfl) (by kernel_rfl)
noncomputable def a9p (t0 t1 t3:D) (ds_1:List D) (h_2:Hp):Option Out :=
 (a0i tab .gtr ty3 (nth 0 ds_1) t1).bind fun t20=>(gd t20 true (some t3)).bind fun t22=>(gd t20 true (some t0)).bind fun t23=>(gd t20 true (some (nth 0 ds_1))).bind fun t24=>(gd t20 true (a0b tab a3f t23 t24)).bind fun t25=>(gd t20 true (a0c tab h_2 a0y t25)).bind fun t26=>(gd t20 true (some t0)).bind fun t27=>(gd t20 true (some (nth 0 ds_1))).bind fun t28=>(gd t20 true (a0i tab .sub ty3 t28 (.int .i64 1))).bind fun t29=>(gd t20 true (a0b tab a3f t27 t29)).bind fun t30=>(gd t20 true (a0c tab h_2 a0y t30)).bind fun t31=>(gdW t20 true h_2 (a3o R t22 [t26,t31] h_2)).bind fun p32=>(gd t20 true (a0i tab .lss ty3 p32.1 (.int .i64 0))).bind fun t33=>(a0R t20 t33 (.bool false)).bind fun t34=>dIf t34
  ((a0i tab .sub ty3 (nth 0 ds_1) (.int .i64 1)).bind fun t41=>(a0i tab .sub ty3 (nth 0 ds_1) (.int .i64 1)).bind fun t44=>(a0b tab a3f t0 t44).bind fun t45=>(a0c tab p32.2 a0y t45).bind fun t46=>(a0b tab a3f t0 (nth 0 ds_1)).bind fun t49=>(a0c tab p32.2 a0y t49).bind fun t50=>(a0b tab a3f t0 (nth 0 ds_1)).bind fun t51=>((a0p tab p32.2 a0y t51 t46).bind fun h'=>some ((.und:D),h')).bind fun p915=>(a0b tab a3f t0 t41).bind fun t52=>((a0p tab p915.2 a0y t52 t50).bind fun h'=>some ((.und:D),h')).bind fun p917=>(a0i tab .sub ty3 (nth 0 ds_1) (.int .i64 1)).bind fun t36=>some (.nrm,[t36,t34],p917.2))
  (some ((.ext 2),[nth 0 ds_1,t34],p32.2))
noncomputable def a9o (t0 t1 t2 t3:D) (ds:List D) (h_1:Hp):Option Out :=
 (a0i tab .lss ty3 (nth 0 ds) t2).bind fun t14=>dIf t14
  (((a0J (a9p t0 t1 t3) [nth 0 ds,nth 3 ds] h_1).bind fun r_1=>some ((a0G 2 r_1.1),[nth 0 r_1.2.1,nth 1 r_1.2.1],r_1.2.2)).bind fun r_2=>a0K (a0G 1 r_2.1) ((a0i tab .add ty3 (nth 0 ds) (.int .i64 1)).bind fun t16=>some (.nrm,[t16,nth 0 r_2.2.1,t14,nth 1 r_2.2.1],r_2.2.2)) fun x=>some (x,[nth 0 ds,nth 0 r_2.2.1,t14,nth 1 r_2.2.1],r_2.2.2))
  (some ((.ext 0),[nth 0 ds,nth 1 ds,t14,nth 3 ds],h_1))
noncomputable def c3z (t0 t1 t2 t3:D) (h:Hp):Option (D × Hp) :=
 (a0i tab .add ty3 t1 (.int .i64 1)).bind fun t11=>((a0J (a9o t0 t1 t2 t3) [t11,.any,.any,.any] h).bind fun r=>some ((a0G 0 r.1),[nth 0 r.2.1,nth 1 r.2.1,nth 2 r.2.1,nth 3 r.2.1],r.2.2)).bind fun r_3=>a1c r_3.1 (some (a0f [],r_3.2.2))
theorem c7X (t0 t1 t2 t3:D) (h:Hp):R a8L [t0,t1,t2,t3] h=c3z t0 t1 t2 t3 h :=
 er d4p (by kernel_rfl) (by kernel_rfl)
noncomputable def F99 (t0:D) (h:Hp):Option (D × Hp) :=
 (a0i tab .neq ty3 t0 t0).bind fun t5=>some (a0f [t5],h)
theorem e99 (t0:D) (h:Hp):R d0y [t0] h=F99 t0 h :=
 er d4q (by kernel_rfl) (by kernel_rfl)
noncomputable def c1T (t0:D) (ds:List D) (h_1:Hp):Option Out :=
 (a0i tab .gtr ty3 (nth 1 ds) (.int .i64 0)).bind fun t10=>dIf t10
  ((a0W tab a5K 5 [0,1,2,3,4] [.str [32],.str [32],.str [44,32],.str [61],.str []]).bind fun t14=>(R a5H [t0,.int .i64 5] h_1).bind fun p16=>(a0b tab a5K t14 p16.1).bind fun t17=>(a0c tab p16.2 ty9 t17).bind fun t18=>(R c0V [t0] p16.2).bind fun p20=>(a0i tab .add ty9 t18 p20.1).bind fun t21=>(a0i tab .add ty9 (nth 0 ds) t21).bind fun t22=>chk (a0c tab p20.2 ty9 t17=some t18)
 ((a0i tab .sub ty3 (nth 1 ds) (.int .i64 1)).bind fun t12=>some (.nrm,[t22,t12,t10],p20.2)))
  (some ((.ext 0),[nth 0 ds,nth 1 ds,t10],h_1))
noncomputable def F96 (t0:D) (h:Hp):Option (D × Hp) :=
 (R c0V [t0] h).bind fun p6=>(R a5H [t0,.int .i64 4] p6.2).bind fun p8=>((a0J (c1T t0) [p6.1,p8.1,.any] p8.2).bind fun r=>some ((a0G 0 r.1),[nth 0 r.2.1,nth 1 r.2.1,nth 2 r.2.1],r.2.2)).bind fun r_1=>a0K r_1.1 (some (a0f [nth 0 r_1.2.1],r_1.2.2)) fun x=>a1c x (some (a0f [.str []],r_1.2.2))
theorem e96 (t0:D) (h:Hp):R d0w [t0] h=F96 t0 h :=
 er d4r (by kernel_rfl) (by kernel_rfl)
noncomputable def F35 (t0:D) (h:Hp):Option (D × Hp) :=
 (R a5H [t0,.int .i64 4] h).bind fun p4=>(a0i tab .eql ty3 p4.1 (.int .i64 0)).bind fun t6=>dIf t6
  ((R a5H [t0,.int .i64 40] p4.2).bind fun p8=>(a0i tab .mul ty3 p8.1 (.int .i64 86400000)).bind fun t9=>some (a0f [t9],p8.2))
  ((a0i tab .eql ty3 p4.1 (.int .i64 1)).bind fun t11=>dIf t11
  ((R a5H [t0,.int .i64 3] p4.2).bind fun p13=>(a0i tab .mul ty3 p13.1 (.int .i64 86400000)).bind fun t14=>(a0i tab .sub ty3 (.int .i64 253402300799999) t14).bind fun t15=>some (a0f [t15],p13.2))
  ((R a5H [t0,.int .i64 60] p4.2).bind fun p17=>(a0i tab .add ty3 (.int .i64 1000) p17.1).bind fun t18=>some (a0f [t18],p17.2)))
theorem e35 (t0:D) (h:Hp):R d0q [t0] h=F35 t0 h :=
 er d4s (by kernel_rfl) (by kernel_rfl)
noncomputable def F97 (t0:D) (h:Hp):Option (D × Hp) :=
 (a0W tab a6X 6 [0,1,2,3,4,5] [.int .i64 1,.int .i64 1,.int .i64 2,.int .i64 5,.int .i64 10,.int .i64 5040]).bind fun t3=>(R a5H [t0,.int .i64 6] h).bind fun p5=>(a0b tab a6X t3 p5.1).bind fun t6=>(a0c tab p5.2 ty3 t6).bind fun t7=>some (a0f [t7],p5.2)
theorem e97 (t0:D) (h:Hp):R d0x [t0] h=F97 t0 h :=
 er d4t (by kernel_rfl) (by kernel_rfl)
noncomputable def c1U (t0 t4m:D) (ds:List D) (h_1:Hp):Option Out :=
 (a0t tab a5K t4m).bind fun t9=>(a0i tab .lss ty3 (nth 1 ds) t9).bind fun t10=>dIf t10
  ((R a5H [t0,.int .i64 3] h_1).bind fun p14=>(a0i tab .eql ty3 p14.1 (.int .i64 1)).bind fun t15=>(dIf t15
  ((a0b tab a5K t4m (nth 1 ds)).bind fun t19=>(a0c tab p14.2 ty9 t19).bind fun t20=>(R d3X [t0] p14.2).bind fun p22=>(a0U tab a0T [0,1] [t20,p22.1]).bind fun t23=>(a0W tab a1p 1 [0] [t23]).bind fun t24=>(a0q tab p22.2 a1p a1p (nth 0 ds) t24).bind fun p25=>chk (a0c tab p22.2 ty9 t19=some t20)
 (some (.nrm,[p25.1],p25.2)))
  (some (.nrm,[nth 0 ds],p14.2))).bind fun r_1=>a0K (a0G 1 r_1.1) ((a0i tab .add ty3 (nth 1 ds) (.int .i64 1)).bind fun t12=>some (.nrm,[nth 0 r_1.2.1,t12,t10,t15],r_1.2.2)) fun x=>some (x,[nth 0 r_1.2.1,nth 1 ds,t10,t15],r_1.2.2))
  (some ((.ext 0),[nth 0 ds,nth 1 ds,t10,nth 3 ds],h_1))
noncomputable def F98 (t0:D) (h:Hp):Option (D × Hp) :=
 (a0W tab a5K 4 [0,1,2,3] [.str [99,111,100,101],.str [108,101,118,101,108],.str [109,115],.str [117,115,101,114]]).bind fun t6=>((a0J (c1U t0 t6) [.nils,.int .i64 0,.any,.any] h).bind fun r=>some ((a0G 0 r.1),[nth 0 r.2.1,nth 1 r.2.1,nth 2 r.2.1,nth 3 r.2.1],r.2.2)).bind fun r_2=>a0K r_2.1 (scope h r_2.2.2 (a0f [nth 0 r_2.2.1])) fun x_1=>a1c x_1 (scope h r_2.2.2 (a0f [.nils]))
theorem e98 (t0:D) (h:Hp):R c8e [t0] h=F98 t0 h :=
 er d4u (by kernel_rfl) (by kernel_rfl)
noncomputable def c6o (t0 t1 t2:D) (h:Hp):Option (D × Hp) :=
 (a0i tab .leq ty3 t1 t0).bind fun t9=>(gd t9 true (some t0)).bind fun t11=>(gd t9 true (some t2)).bind fun t12=>(gd t9 true (a0i tab .leq ty3 t11 t12)).bind fun t13=>(a0R t9 t13 (.bool false)).bind fun t14=>some (a0f [t14],h)
theorem d1I (t0 t1 t2:D) (h:Hp):R a8I [t0,t1,t2] h=c6o t0 t1 t2 h :=
 er d4v (by kernel_rfl) (by kernel_rfl)
noncomputable def a9e (t10m t11:D) (ds:List D) (h_1:Hp):Option Out :=
 (a0i tab .lss ty3 (nth 3 ds) t11).bind fun t13=>dIf t13
  ((a0b tab a1p t10m (nth 3 ds)).bind fun t14=>(a0c tab h_1 a0T t14).bind fun t15=>(a5U 2 t15).bind fun t5=>(a0a tab a0T 0 t5).bind fun t16=>(a0c tab h_1 ty9 t16).bind fun t17=>(R b7C [t17] h_1).bind fun p18=>(dUn .not p18.1).bind fun t19=>dIf t19
  (some (.ret,[.nils,.int .i64 6,t5,nth 3 ds,t13,t19],p18.2))
  ((a0i tab .add ty3 (nth 3 ds) (.int .i64 1)).bind fun t20=>some (.nrm,[nth 0 ds,nth 1 ds,t5,t20,t13,t19],p18.2)))
  (some ((.ext 0),[nth 0 ds,nth 1 ds,nth 2 ds,nth 3 ds,t13,nth 5 ds],h_1))
noncomputable def a9f (t0m:D) (ds_1:List D) (h_2:Hp):Option Out :=
 (a0t tab a1p t0m).bind fun t27=>(a0i tab .lss ty3 (nth 2 ds_1) t27).bind fun t28=>dIf t28
  ((a0b tab a1p t0m (nth 2 ds_1)).bind fun t33=>(a0a tab a0T 0 t33).bind fun t34=>(a0c tab h_2 ty9 t34).bind fun t35=>(a0i tab .sub ty3 (nth 2 ds_1) (.int .i64 1)).bind fun t38=>(a0b tab a1p t0m t38).bind fun t39=>(a0a tab a0T 0 t39).bind fun t40=>(a0c tab h_2 ty9 t40).bind fun t41=>(a0i tab .eql ty9 t35 t41).bind fun t42=>dIf t42
  (some (.ret,[.nils,.int .i64 7,nth 2 ds_1,t28,t42],h_2))
  ((a0i tab .add ty3 (nth 2 ds_1) (.int .i64 1)).bind fun t30=>some (.nrm,[nth 0 ds_1,nth 1 ds_1,t30,t28,t42],h_2)))
  (some ((.ext 2),[nth 0 ds_1,nth 1 ds_1,nth 2 ds_1,t28,nth 4 ds_1],h_2))
noncomputable def c6p (t0:D) (h:Hp):Option (D × Hp) :=
 (a0t tab a1p t0).bind fun t8=>(a0i tab .gtr ty3 t8 (.int .i64 32)).bind fun t9=>dIf t9
  (some (a0f [.nils,.int .i64 4],h))
  ((a0t tab a1p t0).bind fun t11=>((a0J (a9e t0 t11) [.nils,.int .i64 0,.any,.int .i64 0,.any,.any] h).bind fun r=>some ((a0G 0 r.1),[nth 0 r.2.1,nth 1 r.2.1,nth 2 r.2.1,nth 3 r.2.1,nth 4 r.2.1,nth 5 r.2.1],r.2.2)).bind fun r_1=>a0K r_1.1 ((R a7R [t0] r_1.2.2).bind fun p22=>(R b1e [p22.1,.fn (.func a7T) [] []] p22.2).bind fun p24=>((a0J (a9f p22.1) [nth 0 r_1.2.1,nth 1 r_1.2.1,.int .i64 1,.any,.any] p24.2).bind fun r_2=>some ((a0G 2 r_2.1),[nth 0 r_2.2.1,nth 1 r_2.2.1,nth 2 r_2.2.1,nth 3 r_2.2.1,nth 4 r_2.2.1],r_2.2.2)).bind fun r_3=>a0K r_3.1 (some (a0f [p22.1,.int .i64 0],r_3.2.2)) fun x_1=>a1c x_1 (some (a0f [nth 0 r_3.2.1,nth 1 r_3.2.1],r_3.2.2))) fun x=>a1c x (some (a0f [nth 0 r_1.2.1,nth 1 r_1.2.1],r_1.2.2)))
theorem d1J (t0:D) (h:Hp):R b1c [t0] h=c6p t0 h :=
 er d4w (by kernel_rfl) (by kernel_rfl)
noncomputable def b3g (t0 t1 t12:D) (ds:List D) (h_1:Hp):Option Out :=
 (a0i tab .lss ty3 (nth 2 ds) t12).bind fun t14=>dIf t14
  ((a0b tab a1p t0 (nth 2 ds)).bind fun t18=>(a0c tab h_1 a0T t18).bind fun t19=>(a0b tab a1p t1 (nth 2 ds)).bind fun t22=>(a0c tab h_1 a0T t22).bind fun t23=>(a0i tab .neq a0T t19 t23).bind fun t24=>dIf t24
  (some (.ret,[.bool false,nth 2 ds,nth 2 ds,t14,t24],h_1))
  ((a0i tab .add ty3 (nth 2 ds) (.int .i64 1)).bind fun t25=>some (.nrm,[nth 0 ds,nth 2 ds,t25,t14,t24],h_1)))
  (some ((.ext 0),[nth 0 ds,nth 1 ds,nth 2 ds,t14,nth 4 ds],h_1))
noncomputable def c6q (t0 t1:D) (h:Hp):Option (D × Hp) :=
 (a0t tab a1p t0).bind fun t7=>(a0t tab a1p t1).bind fun t9=>(a0i tab .neq ty3 t7 t9).bind fun t10=>dIf t10
  (some (a0f [.bool false],h))
  ((a0t tab a1p t0).bind fun t12=>((a0J (b3g t0 t1 t12) [.bool false,.any,.int .i64 0,.any,.any] h).bind fun r=>some ((a0G 0 r.1),[nth 0 r.2.1,nth 1 r.2.1,nth 2 r.2.1,nth 3 r.2.1,nth 4 r.2.1],r.2.2)).bind fun r_1=>a0K r_1.1 (some (a0f [.bool true],r_1.2.2)) fun x=>a1c x (some (a0f [nth 0 r_1.2.1],r_1.2.2)))
theorem d1K (t0 t1:D) (h:Hp):R b7A [t0,t1] h=c6q t0 t1 h :=
 er d4x (by kernel_rfl) (by kernel_rfl)
noncomputable def c6r (t0 t1:D) (h:Hp):Option (D × Hp) :=
 (R b7E [t0,t1] h).bind fun p7=>(a0i tab .geq ty3 p7.1 (.int .i64 0)).bind fun t8=>some (a0f [t8],p7.2)
theorem d1L (t0 t1:D) (h:Hp):R b7B [t0,t1] h=c6r t0 t1 h :=
 er d4y (by kernel_rfl) (by kernel_rfl)
noncomputable def c6s (t0:D) (h:Hp):Option (D × Hp) :=
 (a1B t0).bind fun t1=>(a0a tab a0T 1 t1).bind fun t3=>(a0c tab h ty9 t3).bind fun t4=>(a0t tab ty9 t4).bind fun t5=>(a0i tab .gtr ty3 t5 (.int .i64 2000)).bind fun t6=>some (a0f [t6],h)
theorem d1M (t0:D) (h:Hp):R b1d [t0] h=c6s t0 h :=
 er d4z (by kernel_rfl) (by kernel_rfl)
noncomputable def a5L (t0 t1 t7:D) (ds:List D) (h_1:Hp):Option Out :=
 (a0i tab .lss ty3 (nth 2 ds) t7).bind fun t9=>dIf t9
  ((a0b tab a1j t0 (nth 2 ds)).bind fun t14=>(a0c tab h_1 a1Z t14).bind fun t15=>(a3o R t1 [t15] h_1).bind fun p16=>dIf p16.1
  (some (.ret,[nth 2 ds,nth 2 ds,nth 2 ds,t9,p16.1],p16.2))
  ((a0i tab .add ty3 (nth 2 ds) (.int .i64 1)).bind fun t18=>some (.nrm,[nth 0 ds,nth 2 ds,t18,t9,p16.1],p16.2)))
  (some ((.ext 0),[nth 0 ds,nth 1 ds,nth 2 ds,t9,nth 4 ds],h_1))
noncomputable def c5O (t0 t1:D) (h:Hp):Option (D × Hp) :=
 (a0t tab a1j t0).bind fun t7=>((a0J (a5L t0 t1 t7) [.int .i64 0,.any,.int .i64 0,.any,.any] h).bind fun r=>some ((a0G 0 r.1),[nth 0 r.2.1,nth 1 r.2.1,nth 2 r.2.1,nth 3 r.2.1,nth 4 r.2.1],r.2.2)).bind fun r_1=>a0K r_1.1 (some (a0f [.int .i64 (-1)],r_1.2.2)) fun x=>a1c x (some (a0f [nth 0 r_1.2.1],r_1.2.2))
theorem d1b (t0 t1:D) (h:Hp):R b4e [t0,t1] h=c5O t0 t1 h :=
 er d4A (by kernel_rfl) (by kernel_rfl)
noncomputable def c5U (t0:D) (h:Hp):Option (D × Hp) :=
 (a0i tab .geq ty3 t0 (.int .i64 1)).bind fun t4=>(gd t4 true (some t0)).bind fun t6=>(gd t4 true (a0i tab .leq ty3 t6 (.int .i64 5040))).bind fun t7=>(a0R t4 t7 (.bool false)).bind fun t8=>(gd t8 true (some t0)).bind fun t10=>(gd t8 true (a0i tab .rem ty3 (.int .i64 5040) t10)).bind fun t11=>(gd t8 true (a0i tab .eql ty3 t11 (.int .i64 0))).bind fun t12=>(a0R t8 t12 (.bool false)).bind fun t13=>some (a0f [t13],h)
theorem d1j (t0:D) (h:Hp):R b7p [t0] h=c5U t0 h :=
 er d4B (by kernel_rfl) (by kernel_rfl)
noncomputable def a9b (t0:D) (ds:List D) (h_1:Hp):Option Out :=
 (a0t tab a1p t0).bind fun t13=>(a0i tab .lss ty3 (nth 2 ds) t13).bind fun t14=>dIf t14
  ((a0b tab a1p t0 (nth 2 ds)).bind fun t19=>(a0a tab a0T 0 t19).bind fun t20=>(a0c tab h_1 ty9 t20).bind fun t21=>(R b7r [t21] h_1).bind fun p22=>(dUn .not p22.1).bind fun t23=>dIf t23
  (some (.ret,[.nils,.int .i64 6,nth 2 ds,t14,t23],p22.2))
  ((a0i tab .add ty3 (nth 2 ds) (.int .i64 1)).bind fun t16=>some (.nrm,[nth 0 ds,nth 1 ds,t16,t14,t23],p22.2)))
  (some ((.ext 0),[nth 0 ds,nth 1 ds,nth 2 ds,t14,nth 4 ds],h_1))
noncomputable def a7c (t0:D) (ds_1:List D) (t5m:D) (ds_2:List D) (h_3:Hp):Option Out :=
 (a0i tab .gtr ty3 (nth 0 ds_2) (.int .i64 0)).bind fun t40=>(gd t40 true (some (t5m:D))).bind fun t42=>(gd t40 true (some (nth 0 ds_2))).bind fun t43=>(gd t40 true (a0i tab .sub ty3 t43 (.int .i64 1))).bind fun t44=>(gd t40 true (a0b tab a1p t42 t44)).bind fun t45=>(gd t40 true (a0a tab a0T 0 t45)).bind fun t46=>(gd t40 true (a0c tab h_3 ty9 t46)).bind fun t47=>(gd t40 true (some t0)).bind fun t48=>(gd t40 true (some (nth 3 ds_1))).bind fun t49=>(gd t40 true (a0b tab a1p t48 t49)).bind fun t50=>(gd t40 true (a0a tab a0T 0 t50)).bind fun t51=>(gd t40 true (a0c tab h_3 ty9 t51)).bind fun t52=>(gd t40 true (a0i tab .gtr ty9 t47 t52)).bind fun t53=>(a0R t40 t53 (.bool false)).bind fun t54=>dIf t54
  ((a0i tab .sub ty3 (nth 0 ds_2) (.int .i64 1)).bind fun t59=>(a0b tab a1p t5m t59).bind fun t60=>(a0c tab h_3 a0T t60).bind fun t61=>(a0b tab a1p t5m (nth 0 ds_2)).bind fun t62=>((a0p tab h_3 a0T t62 t61).bind fun h'=>some ((.und:D),h')).bind fun p908=>(a0i tab .sub ty3 (nth 0 ds_2) (.int .i64 1)).bind fun t64=>some (.nrm,[t64,t54],p908.2))
  (some ((.ext 4),[nth 0 ds_2,t54],h_3))
noncomputable def b2Z (t0:D) (ds_1:List D) (h_2:Hp):Option Out :=
 (a0t tab a1p t0).bind fun t26=>(a0i tab .lss ty3 (nth 3 ds_1) t26).bind fun t27=>dIf t27
  ((a0t tab a1p (nth 2 ds_1)).bind fun t31=>(a0b tab a1p t0 (nth 3 ds_1)).bind fun t35=>(a0c tab h_2 a0T t35).bind fun t36=>(a0W tab a1p 1 [0] [t36]).bind fun t37=>(a0q tab h_2 a1p a1p (nth 2 ds_1) t37).bind fun p38=>((a0J (a7c t0 ds_1 p38.1) [t31,nth 6 ds_1] p38.2).bind fun r_3=>some ((a0G 4 r_3.1),[nth 0 r_3.2.1,nth 1 r_3.2.1],r_3.2.2)).bind fun r_4=>a0K r_4.1 ((a0b tab a1p t0 (nth 3 ds_1)).bind fun t69=>(a0c tab r_4.2.2 a0T t69).bind fun t70=>(a0b tab a1p p38.1 (nth 0 r_4.2.1)).bind fun t71=>((a0p tab r_4.2.2 a0T t71 t70).bind fun h'=>some ((.und:D),h')).bind fun p907=>(a0i tab .gtr ty3 (nth 0 r_4.2.1) (.int .i64 0)).bind fun t73=>(gd t73 true (some p38.1)).bind fun t75=>(gd t73 true (some (nth 0 r_4.2.1))).bind fun t76=>(gd t73 true (a0i tab .sub ty3 t76 (.int .i64 1))).bind fun t77=>(gd t73 true (a0b tab a1p t75 t77)).bind fun t78=>(gd t73 true (a0a tab a0T 0 t78)).bind fun t79=>(gd t73 true (a0c tab p907.2 ty9 t79)).bind fun t80=>(gd t73 true (some t0)).bind fun t81=>(gd t73 true (some (nth 3 ds_1))).bind fun t82=>(gd t73 true (a0b tab a1p t81 t82)).bind fun t83=>(gd t73 true (a0a tab a0T 0 t83)).bind fun t84=>(gd t73 true (a0c tab p907.2 ty9 t84)).bind fun t85=>(gd t73 true (a0i tab .eql ty9 t80 t85)).bind fun t86=>(a0R t73 t86 (.bool false)).bind fun t87=>dIf t87
  (some (.ret,[.nils,.int .i64 7,p38.1,nth 3 ds_1,nth 0 r_4.2.1,t27,nth 1 r_4.2.1,t87],p907.2))
  ((a0i tab .add ty3 (nth 3 ds_1) (.int .i64 1)).bind fun t29=>some (.nrm,[nth 0 ds_1,nth 1 ds_1,p38.1,t29,nth 0 r_4.2.1,t27,nth 1 r_4.2.1,t87],p907.2))) fun x_1=>a0K (a0G 3 x_1) ((a0i tab .add ty3 (nth 3 ds_1) (.int .i64 1)).bind fun t29_1=>some (.nrm,[nth 0 ds_1,nth 1 ds_1,p38.1,t29_1,nth 0 r_4.2.1,t27,nth 1 r_4.2.1,nth 7 ds_1],r_4.2.2)) fun x_2=>some (x_2,[nth 0 ds_1,nth 1 ds_1,p38.1,nth 3 ds_1,nth 0 r_4.2.1,t27,nth 1 r_4.2.1,nth 7 ds_1],r_4.2.2))
  (some ((.ext 2),[nth 0 ds_1,nth 1 ds_1,nth 2 ds_1,nth 3 ds_1,nth 4 ds_1,t27,nth 6 ds_1,nth 7 ds_1],h_2))
noncomputable def c5V (t0:D) (h:Hp):Option (D × Hp) :=
 (a0t tab a1p t0).bind fun t9=>(a0i tab .gtr ty3 t9 (.int .i64 32)).bind fun t10=>dIf t10
  (scope h h (a0f [.nils,.int .i64 4]))
  (((a0J (a9b t0) [.nils,.int .i64 0,.int .i64 0,.any,.any] h).bind fun r=>some ((a0G 0 r.1),[nth 0 r.2.1,nth 1 r.2.1,nth 2 r.2.1,nth 3 r.2.1,nth 4 r.2.1],r.2.2)).bind fun r_1=>a0K r_1.1 (((a0J (b2Z t0) [nth 0 r_1.2.1,nth 1 r_1.2.1,.nils,.int .i64 0,.any,.any,.any,.any] r_1.2.2).bind fun r_2=>some ((a0G 2 r_2.1),[nth 0 r_2.2.1,nth 1 r_2.2.1,nth 2 r_2.2.1,nth 3 r_2.2.1,nth 4 r_2.2.1,nth 5 r_2.2.1,nth 6 r_2.2.1,nth 7 r_2.2.1],r_2.2.2)).bind fun r_5=>a0K r_5.1 (scope h r_5.2.2 (a0f [nth 2 r_5.2.1,.int .i64 0])) fun x_3=>a1c x_3 (scope h r_5.2.2 (a0f [nth 0 r_5.2.1,nth 1 r_5.2.1]))) fun x=>a1c x (scope h r_1.2.2 (a0f [nth 0 r_1.2.1,nth 1 r_1.2.1])))
theorem d1k (t0:D) (h:Hp):R b4h [t0] h=c5V t0 h :=
 er d4C (by kernel_rfl) (by kernel_rfl)
noncomputable def F59 (t0 t1 t2 t3:D) (h:Hp):Option (D × Hp) :=
 (R c8b [t0] h).bind fun p12=>(a0i tab .lss ty3 t3 (.int .i64 1)).bind fun t14=>dIf t14
  (scope h p12.2 (a0f [p12.1]))
  ((R d3Z [p12.1,t1,t2] p12.2).bind fun p20=>(a0w 0 p20.1).bind fun t21=>(a0w 1 p20.1).bind fun t22=>(dUn .not t22).bind fun t24=>(dIf t24
  ((a0U tab a1k [0,1] [t1,t2]).bind fun t29=>(a0W tab a1C 1 [0] [t29]).bind fun t30=>(R c8c [p12.1,t21,t30] p20.2).bind fun p31=>some (.nrm,[p31.1],p31.2))
  (some (.nrm,[p12.1],p20.2))).bind fun r=>a0K r.1 ((a0b tab a1C (nth 0 r.2.1) t21).bind fun t34=>(a0a tab a1k 2 t34).bind fun t35=>(a0c tab r.2.2 ty3 t35).bind fun t36=>(a0i tab .add ty3 t36 t3).bind fun t38=>(a0b tab a1C (nth 0 r.2.1) t21).bind fun t39=>(a0a tab a1k 2 t39).bind fun t40=>((a0p tab r.2.2 ty3 t40 t38).bind fun h'=>some ((.und:D),h')).bind fun p909=>scope h p909.2 (a0f [nth 0 r.2.1])) fun x=>a1c x (scope h r.2.2 (a0f [.nils])))
theorem e59 (t0 t1 t2 t3:D) (h:Hp):R d0s [t0,t1,t2,t3] h=F59 t0 t1 t2 t3 h :=
 er d4D (by kernel_rfl) (by kernel_rfl)
noncomputable def c5P (t0 t1:D) (h:Hp):Option (D × Hp) :=
 (a1B t0).bind fun t2=>(a0a tab a1Z 0 t2).bind fun t4=>(a0c tab h ty3 t4).bind fun t5=>(a0c tab h ty3 t1).bind fun t6=>(a0i tab .eql ty3 t5 t6).bind fun t7=>some (a0f [t7],h)
theorem d1c (t0 t1:D) (h:Hp):R b7n [t0,t1] h=c5P t0 t1 h :=
 er d4E (by kernel_rfl) (by kernel_rfl)
noncomputable def b3a (t0 t2 t4:D) (ds:List D) (h_1:Hp):Option Out :=
 (a0i tab .lss ty3 (nth 0 ds) (nth 1 ds)).bind fun t17=>dIf t17
  ((a0i tab .add ty3 (nth 0 ds) (nth 1 ds)).bind fun t20=>(a1m tab ty3 b0t t20).bind fun t21=>(a0i tab .shr b0t t21 (.int .u64 1)).bind fun t22=>(a1m tab b0t ty3 t22).bind fun t23=>(a0b tab a0E t0 t23).bind fun t27=>(a0c tab h_1 a0Q t27).bind fun t28=>(a0c tab h_1 a0Q t4).bind fun t29=>(a3o R t2 [t28,t29] h_1).bind fun p30=>(a0i tab .lss ty3 p30.1 (.int .i64 0)).bind fun t31=>(dIf t31
  ((a0i tab .add ty3 t23 (.int .i64 1)).bind fun t33=>some (.nrm,[t33,nth 1 ds],p30.2))
  (some (.nrm,[nth 0 ds,t23],p30.2))).bind fun r_1=>some ((a0G 1 r_1.1),[nth 0 r_1.2.1,nth 1 r_1.2.1,t23,t17,t31],r_1.2.2))
  (some ((.ext 0),[nth 0 ds,nth 1 ds,nth 2 ds,t17,nth 4 ds],h_1))
noncomputable def c5W (t0 t1 t2:D) (h:Hp):Option (D × Hp) :=
 (a1B t1).bind fun t4=>(a0t tab a0E t0).bind fun t13=>((a0J (b3a t0 t2 t4) [.int .i64 0,t13,.any,.any,.any] h).bind fun r=>some ((a0G 0 r.1),[nth 0 r.2.1,nth 1 r.2.1,nth 2 r.2.1,nth 3 r.2.1,nth 4 r.2.1],r.2.2)).bind fun r_2=>a0K r_2.1 ((a0i tab .lss ty3 (nth 0 r_2.2.1) t13).bind fun t38=>(gd t38 true (some t2)).bind fun t40=>(gd t38 true (some t0)).bind fun t41=>(gd t38 true (some (nth 0 r_2.2.1))).bind fun t42=>(gd t38 true (a0b tab a0E t41 t42)).bind fun t43=>(gd t38 true (a0c tab r_2.2.2 a0Q t43)).bind fun t44=>(gd t38 true (a0c tab r_2.2.2 a0Q t4)).bind fun t45=>(gdW t38 true r_2.2.2 (a3o R t40 [t44,t45] r_2.2.2)).bind fun p46=>(gd t38 true (a0i tab .eql ty3 p46.1 (.int .i64 0))).bind fun t47=>(a0R t38 t47 (.bool false)).bind fun t48=>some (a0f [nth 0 r_2.2.1,t48],p46.2)) fun x=>a1c x (some (a0f [.int .i64 0,.bool false],r_2.2.2))
theorem d1l (t0 t1 t2:D) (h:Hp):R b7q [t0,t1,t2] h=c5W t0 t1 t2 h :=
 er d4F (by kernel_rfl) (by kernel_rfl)
noncomputable def c5X (t0 t1:D) (h:Hp):Option (D × Hp) :=
 (a1B t0).bind fun t2=>(a1B t1).bind fun t3=>(a0a tab a0Q 0 t2).bind fun t5=>(a0c tab h ty3 t5).bind fun t6=>(a0a tab a0Q 0 t3).bind fun t7=>(a0c tab h ty3 t7).bind fun t8=>(R c0W [t6,t8] h).bind fun p9=>(a0a tab a0Q 1 t2).bind fun t10=>(a0c tab p9.2 ty3 t10).bind fun t11=>(a0a tab a0Q 1 t3).bind fun t12=>(a0c tab p9.2 ty3 t12).bind fun t13=>(R c0W [t11,t13] p9.2).bind fun p14=>(a0W tab a6X 2 [0,1] [p9.1,p14.1]).bind fun t15=>(R c8d [t15] p14.2).bind fun p16=>chk (a0c tab h ty3 t10=some t11)
 (chk (a0c tab h ty3 t12=some t13)
 (some (a0f [p16.1],p16.2)))
theorem d1m (t0 t1:D) (h:Hp):R b4i [t0,t1] h=c5X t0 t1 h :=
 er d4G (by kernel_rfl) (by kernel_rfl)
noncomputable def d7b (t0:D) (h:Hp):Option (D × Hp) :=
 (a0W tab a5K 14 [0,1,2,3,4,5,6,7,8,9,10,11,12,13] [.str [103,101,116],.str [101,114,114,111,114],.str [119,97,114,110],.str [97,49],.str [117,115,101,114,95,55],.str [120],.str [84,105,109,101,111,117,116],.str [50,48,48],.str [71,69,84],.str [101,114,114,111],.str [122],.str [],.str [255],.str [97,46,98]]).bind fun t4=>(a0t tab a5K t4).bind fun t8=>(R a5H [t0,t8] h).bind fun p9=>(a0b tab a5K t4 p9.1).bind fun t10=>(a0c tab p9.2 ty9 t10).bind fun t11=>some (a0f [t11],p9.2)
theorem d7E (t0:D) (h:Hp):R c0V [t0] h=d7b t0 h :=
 er d4H (by kernel_rfl) (by kernel_rfl)
noncomputable def F33 (t0:D) (h:Hp):Option (D × Hp) :=
 (a0W tab a5K 11 [0,1,2,3,4,5,6,7,8,9,10] [.str [119,97,114,110],.str [105,110,102,111],.str [55],.str [45,51],.str [51,49],.str [],.str [120,32,121],.str [57,57,57,57,57,57,57,57,57,57,57,57,57,57,57,57,57,57],.str [49,48,48,48,48,48,48,48,48,48,48,48,48,48,48,48,48,48,48],.str [48,55],.str [45]]).bind fun t4=>(a0t tab a5K t4).bind fun t8=>(R a5H [t0,t8] h).bind fun p9=>(a0b tab a5K t4 p9.1).bind fun t10=>(a0c tab p9.2 ty9 t10).bind fun t11=>some (a0f [t11],p9.2)
theorem e33 (t0:D) (h:Hp):R d3X [t0] h=F33 t0 h :=
 er d4I (by kernel_rfl) (by kernel_rfl)
noncomputable def a4Q (p24:D × Hp) (t25:D) (ds:List D) (h_1:Hp):Option Out :=
 (a0i tab .lss ty3 (nth 2 ds) t25).bind fun t27=>dIf t27
  ((a0b tab a0L p24.1 (nth 2 ds)).bind fun t28=>(a0c tab h_1 ty5 t28).bind fun t29=>(R b7G [t29] h_1).bind fun p31=>(dUn .not p31.1).bind fun t32=>(gd t32 true (some t29)).bind fun t34=>(gd t32 true (a0i tab .neq ty5 t34 (.int .u8 46))).bind fun t35=>(a0R t32 t35 (.bool false)).bind fun t36=>dIf t36
  (some (.ret,[.bool false,t29,nth 2 ds,t27,t36],p31.2))
  ((a0i tab .add ty3 (nth 2 ds) (.int .i64 1)).bind fun t37=>some (.nrm,[nth 0 ds,t29,t37,t27,t36],p31.2)))
  (some ((.ext 0),[nth 0 ds,nth 1 ds,nth 2 ds,t27,nth 4 ds],h_1))
noncomputable def b5r (t0:D) (h:Hp):Option (D × Hp) :=
 (a0i tab .eql ty9 t0 (.str [])).bind fun t6=>(gd t6 false (some t0)).bind fun t8=>(gd t6 false (a0t tab ty9 t8)).bind fun t9=>(gd t6 false (a0i tab .gtr ty3 t9 (.int .i64 32))).bind fun t10=>(a0R t6 (.bool true) t10).bind fun t11=>(gd t11 false (some t0)).bind fun t13=>(gd t11 false (a4m tab ty9 t13 (.int .i64 0))).bind fun t14=>(gdW t11 false h (R b7F [t14] h)).bind fun p15=>(gd t11 false (dUn .not p15.1)).bind fun t16=>(gd t11 false (some t16)).bind fun t17=>(gd t17 true (some t0)).bind fun t18=>(gd t17 true (a4m tab ty9 t18 (.int .i64 0))).bind fun t19=>(gd t17 true (a0i tab .neq ty5 t19 (.int .u8 95))).bind fun t20=>(gd t11 false (a0R t17 t20 (.bool false))).bind fun t21=>(a0R t11 (.bool true) t21).bind fun t22=>dIf t22
  (scope h p15.2 (a0f [.bool false]))
  ((c3i ty5 p15.2 t0).bind fun p24=>(a0t tab a0L p24.1).bind fun t25=>((a0J (a4Q p24 t25) [.bool false,.any,.int .i64 0,.any,.any] p24.2).bind fun r=>some ((a0G 0 r.1),[nth 0 r.2.1,nth 1 r.2.1,nth 2 r.2.1,nth 3 r.2.1,nth 4 r.2.1],r.2.2)).bind fun r_1=>a0K r_1.1 (scope h r_1.2.2 (a0f [.bool true])) fun x=>a1c x (scope h r_1.2.2 (a0f [nth 0 r_1.2.1])))
theorem d1N (t0:D) (h:Hp):R b7C [t0] h=b5r t0 h :=
 er d4J (by kernel_rfl) (by kernel_rfl)
noncomputable def c3s (t0 t1:D) (h:Hp):Option (D × Hp) :=
 (a0t tab a1p t0).bind fun t6=>(R b1f [t0,t6,t1] h).bind fun p8=>some (a0f [],p8.2)
theorem c7Q (t0 t1:D) (h:Hp):R b1e [t0,t1] h=c3s t0 t1 h :=
 er d4K (by kernel_rfl) (by kernel_rfl)
noncomputable def c6t (t0 t1:D) (h:Hp):Option (D × Hp) :=
 (a1B t0).bind fun t2=>(a1B t1).bind fun t3=>(a0a tab a0T 0 t2).bind fun t5=>(a0c tab h ty9 t5).bind fun t6=>(a0a tab a0T 0 t3).bind fun t7=>(a0c tab h ty9 t7).bind fun t8=>(R b7D [t6,t8] h).bind fun p9=>some (a0f [p9.1],p9.2)
theorem d1O (t0 t1:D) (h:Hp):R a7T [t0,t1] h=c6t t0 t1 h :=
 er d4L (by kernel_rfl) (by kernel_rfl)
noncomputable def c6u (t0 t1:D) (h:Hp):Option (D × Hp) :=
 (R c2p [t0,t1] h).bind fun p7=>some (a0f [p7.1],p7.2)
theorem d1P (t0 t1:D) (h:Hp):R b7D [t0,t1] h=c6u t0 t1 h :=
 er d4M (by kernel_rfl) (by kernel_rfl)
noncomputable def a5M (t0 t1 t7:D) (ds:List D) (h_1:Hp):Option Out :=
 (a0i tab .lss ty3 (nth 2 ds) t7).bind fun t9=>dIf t9
  ((a0b tab a1p t0 (nth 2 ds)).bind fun t14=>(a0c tab h_1 a0T t14).bind fun t15=>(a3o R t1 [t15] h_1).bind fun p16=>dIf p16.1
  (some (.ret,[nth 2 ds,nth 2 ds,nth 2 ds,t9,p16.1],p16.2))
  ((a0i tab .add ty3 (nth 2 ds) (.int .i64 1)).bind fun t18=>some (.nrm,[nth 0 ds,nth 2 ds,t18,t9,p16.1],p16.2)))
  (some ((.ext 0),[nth 0 ds,nth 1 ds,nth 2 ds,t9,nth 4 ds],h_1))
noncomputable def c6v (t0 t1:D) (h:Hp):Option (D × Hp) :=
 (a0t tab a1p t0).bind fun t7=>((a0J (a5M t0 t1 t7) [.int .i64 0,.any,.int .i64 0,.any,.any] h).bind fun r=>some ((a0G 0 r.1),[nth 0 r.2.1,nth 1 r.2.1,nth 2 r.2.1,nth 3 r.2.1,nth 4 r.2.1],r.2.2)).bind fun r_1=>a0K r_1.1 (some (a0f [.int .i64 (-1)],r_1.2.2)) fun x=>a1c x (some (a0f [nth 0 r_1.2.1],r_1.2.2))
theorem d1Q (t0 t1:D) (h:Hp):R b7E [t0,t1] h=c6v t0 t1 h :=
 er d4N (by kernel_rfl) (by kernel_rfl)
noncomputable def a4P (t0:D) (ds:List D) (h_1:Hp):Option Out :=
 (a0t tab ty9 t0).bind fun t25=>(a0i tab .lss ty3 (nth 1 ds) t25).bind fun t26=>dIf t26
  ((a4m tab ty9 t0 (nth 1 ds)).bind fun t31=>(R b7s [t31] h_1).bind fun p32=>(dUn .not p32.1).bind fun t33=>(gd t33 true (some t0)).bind fun t35=>(gd t33 true (some (nth 1 ds))).bind fun t36=>(gd t33 true (a4m tab ty9 t35 t36)).bind fun t37=>(gd t33 true (a0i tab .neq ty5 t37 (.int .u8 46))).bind fun t38=>(a0R t33 t38 (.bool false)).bind fun t39=>dIf t39
  (some (.ret,[.bool false,nth 1 ds,t26,t39],p32.2))
  ((a0i tab .add ty3 (nth 1 ds) (.int .i64 1)).bind fun t28=>some (.nrm,[nth 0 ds,t28,t26,t39],p32.2)))
  (some ((.ext 0),[nth 0 ds,nth 1 ds,t26,nth 3 ds],h_1))
noncomputable def b5p (t0:D) (h:Hp):Option (D × Hp) :=
 (a0t tab ty9 t0).bind fun t5=>(a0i tab .lss ty3 t5 (.int .i64 1)).bind fun t6=>(gd t6 false (some t0)).bind fun t8=>(gd t6 false (a0t tab ty9 t8)).bind fun t9=>(gd t6 false (a0i tab .gtr ty3 t9 (.int .i64 32))).bind fun t10=>(a0R t6 (.bool true) t10).bind fun t11=>(gd t11 false (some t0)).bind fun t13=>(gd t11 false (a4m tab ty9 t13 (.int .i64 0))).bind fun t14=>(gdW t11 false h (R b4j [t14] h)).bind fun p15=>(gd t11 false (dUn .not p15.1)).bind fun t16=>(gd t11 false (some t16)).bind fun t17=>(gd t17 true (some t0)).bind fun t18=>(gd t17 true (a4m tab ty9 t18 (.int .i64 0))).bind fun t19=>(gd t17 true (a0i tab .neq ty5 t19 (.int .u8 95))).bind fun t20=>(gd t11 false (a0R t17 t20 (.bool false))).bind fun t21=>(a0R t11 (.bool true) t21).bind fun t22=>dIf t22
  (some (a0f [.bool false],p15.2))
  (((a0J (a4P t0) [.bool false,.int .i64 0,.any,.any] p15.2).bind fun r=>some ((a0G 0 r.1),[nth 0 r.2.1,nth 1 r.2.1,nth 2 r.2.1,nth 3 r.2.1],r.2.2)).bind fun r_1=>a0K r_1.1 (some (a0f [.bool true],r_1.2.2)) fun x=>a1c x (some (a0f [nth 0 r_1.2.1],r_1.2.2)))
theorem d1o (t0:D) (h:Hp):R b7r [t0] h=b5p t0 h :=
 er d4O (by kernel_rfl) (by kernel_rfl)
noncomputable def F80 (t0 t1 t2:D) (h:Hp):Option (D × Hp) :=
 (a0U tab a1k [0,1] [t1,t2]).bind fun t11=>(R d4c [t0,t11,.fn (.func d0v) [] []] h).bind fun p12=>(a0w 0 p12.1).bind fun t13=>(a0w 1 p12.1).bind fun t14=>some (a0f [t13,t14],p12.2)
theorem e80 (t0 t1 t2:D) (h:Hp):R d3Z [t0,t1,t2] h=F80 t0 t1 t2 h :=
 er d4P (by kernel_rfl) (by kernel_rfl)
noncomputable def c6w (t0:D) (h:Hp):Option (D × Hp) :=
 (a0b tab b5o (.fptr kin) t0).bind fun t4=>(a0c tab h ty5 t4).bind fun t5=>(a0i tab .and ty5 t5 (.int .u8 2)).bind fun t6=>(a0i tab .neq ty5 t6 (.int .u8 0)).bind fun t7=>some (a0f [t7],h)
theorem d1R (t0:D) (h:Hp):R b7F [t0] h=c6w t0 h :=
 er d4Q (by kernel_rfl) (by kernel_rfl)
noncomputable def c6x (t0:D) (h:Hp):Option (D × Hp) :=
 (a0b tab b5o (.fptr kin) t0).bind fun t4=>(a0c tab h ty5 t4).bind fun t5=>(a0i tab .and ty5 t5 (.int .u8 3)).bind fun t6=>(a0i tab .neq ty5 t6 (.int .u8 0)).bind fun t7=>(gd t7 false (some t0)).bind fun t9=>(gd t7 false (a0i tab .eql ty5 t9 (.int .u8 95))).bind fun t10=>(a0R t7 (.bool true) t10).bind fun t11=>some (a0f [t11],h)
theorem d1S (t0:D) (h:Hp):R b7G [t0] h=c6x t0 h :=
 er d4R (by kernel_rfl) (by kernel_rfl)
noncomputable def a7d (t0 t1 t2 t6m:D) (ds:List D) (h_1:Hp):Option Out :=
 (a0i tab .leq ty3 (nth 1 ds) t1).bind fun t13=>dIf t13
  ((R a6Q [t0,nth 0 ds,nth 1 ds,t2] h_1).bind fun p18=>(a0i tab .add ty3 (nth 1 ds) t6m).bind fun t22=>some (.nrm,[nth 1 ds,t22,t13],p18.2))
  (some ((.ext 0),[nth 0 ds,nth 1 ds,t13],h_1))
noncomputable def b9V (t0 t1 t2:D) (ds_1:List D) (ds_2:List D) (h_3:Hp):Option Out :=
 (a0i tab .leq ty3 (nth 1 ds_2) t1).bind fun t35=>dIf t35
  ((a0i tab .add ty3 (nth 0 ds_2) (nth 0 ds_1)).bind fun t40=>(R c2q [t0,nth 0 ds_2,t40,nth 1 ds_2,t2] h_3).bind fun p43=>(a0i tab .mul ty3 (.int .i64 2) (nth 0 ds_1)).bind fun t47=>(a0i tab .add ty3 (nth 1 ds_2) t47).bind fun t48=>some (.nrm,[nth 1 ds_2,t48,t35],p43.2))
  (some ((.ext 4),[nth 0 ds_2,nth 1 ds_2,t35],h_3))
noncomputable def a9g (t0 t1 t2:D) (ds_1:List D) (h_2:Hp):Option Out :=
 (a0i tab .lss ty3 (nth 0 ds_1) t1).bind fun t30=>dIf t30
  ((a0i tab .mul ty3 (.int .i64 2) (nth 0 ds_1)).bind fun t32=>((a0J (b9V t0 t1 t2 ds_1) [.int .i64 0,t32,nth 5 ds_1] h_2).bind fun r_3=>some ((a0G 4 r_3.1),[nth 0 r_3.2.1,nth 1 r_3.2.1,nth 2 r_3.2.1],r_3.2.2)).bind fun r_4=>a0K r_4.1 ((a0i tab .add ty3 (nth 0 r_4.2.1) (nth 0 ds_1)).bind fun t51=>(a0i tab .lss ty3 t51 t1).bind fun t54=>(dIf t54
  ((R c2q [t0,nth 0 r_4.2.1,t51,t1,t2] r_4.2.2).bind fun p60=>some (.nrm,([]:List D),p60.2))
  (some (.nrm,([]:List D),r_4.2.2))).bind fun r_5=>a0K r_5.1 ((a0i tab .mul ty3 (nth 0 ds_1) (.int .i64 2)).bind fun t62=>some (.nrm,[t62,nth 0 r_4.2.1,nth 1 r_4.2.1,t51,t30,nth 2 r_4.2.1,t54],r_5.2.2)) fun x_2=>some ((a0G 3 x_2),[nth 0 ds_1,nth 0 r_4.2.1,nth 1 r_4.2.1,t51,t30,nth 2 r_4.2.1,t54],r_5.2.2)) fun x_1=>some ((a0G 3 x_1),[nth 0 ds_1,nth 0 r_4.2.1,nth 1 r_4.2.1,nth 3 ds_1,t30,nth 2 r_4.2.1,nth 6 ds_1],r_4.2.2))
  (some ((.ext 2),[nth 0 ds_1,nth 1 ds_1,nth 2 ds_1,nth 3 ds_1,t30,nth 5 ds_1,nth 6 ds_1],h_2))
noncomputable def c3t (t0 t1 t2:D) (h:Hp):Option (D × Hp) :=
 ((a0J (a7d t0 t1 t2 (.int .i64 20)) [.int .i64 0,.int .i64 20,.any] h).bind fun r=>some ((a0G 0 r.1),[nth 0 r.2.1,nth 1 r.2.1,nth 2 r.2.1],r.2.2)).bind fun r_1=>a0K r_1.1 ((R a6Q [t0,nth 0 r_1.2.1,t1,t2] r_1.2.2).bind fun p27=>((a0J (a9g t0 t1 t2) [.int .i64 20,nth 0 r_1.2.1,nth 1 r_1.2.1,.any,.any,.any,.any] p27.2).bind fun r_2=>some ((a0G 2 r_2.1),[nth 0 r_2.2.1,nth 1 r_2.2.1,nth 2 r_2.2.1,nth 3 r_2.2.1,nth 4 r_2.2.1,nth 5 r_2.2.1,nth 6 r_2.2.1],r_2.2.2)).bind fun r_6=>a1c r_6.1 (some (a0f [],r_6.2.2))) fun x=>a1c x (some (a0f [],r_1.2.2))
theorem c7R (t0 t1 t2:D) (h:Hp):R b1f [t0,t1,t2] h=c3t t0 t1 t2 h :=
 er d4S (by kernel_rfl) (by kernel_rfl)
noncomputable def c6y (t0 t1:D) (h:Hp):Option (D × Hp) :=
 (R b1g [t0,t1] h).bind fun p7=>some (a0f [p7.1],p7.2)
theorem d1T (t0 t1:D) (h:Hp):R c2p [t0,t1] h=c6y t0 t1 h :=
 er d4T (by kernel_rfl) (by kernel_rfl)
noncomputable def c5Y (t0:D) (h:Hp):Option (D × Hp) :=
 (a0i tab .geq ty5 t0 (.int .u8 97)).bind fun t4=>(gd t4 true (some t0)).bind fun t6=>(gd t4 true (a0i tab .leq ty5 t6 (.int .u8 122))).bind fun t7=>(a0R t4 t7 (.bool false)).bind fun t8=>(gd t8 false (some t0)).bind fun t10=>(gd t8 false (a0i tab .geq ty5 t10 (.int .u8 65))).bind fun t11=>(gd t8 false (some t11)).bind fun t12=>(gd t12 true (some t0)).bind fun t13=>(gd t12 true (a0i tab .leq ty5 t13 (.int .u8 90))).bind fun t14=>(gd t8 false (a0R t12 t14 (.bool false))).bind fun t15=>(a0R t8 (.bool true) t15).bind fun t16=>some (a0f [t16],h)
theorem d1p (t0:D) (h:Hp):R b4j [t0] h=c5Y t0 h :=
 er d4U (by kernel_rfl) (by kernel_rfl)
noncomputable def c5Z (t0:D) (h:Hp):Option (D × Hp) :=
 (R b7t [t0] h).bind fun p4=>(gd p4.1 false (some t0)).bind fun t6=>(gdW p4.1 false p4.2 (R b4j [t6] p4.2)).bind fun p7=>(a0R p4.1 (.bool true) p7.1).bind fun t8=>(gd t8 false (some t0)).bind fun t10=>(gd t8 false (a0i tab .eql ty5 t10 (.int .u8 95))).bind fun t11=>(a0R t8 (.bool true) t11).bind fun t12=>some (a0f [t12],p7.2)
theorem d1q (t0:D) (h:Hp):R b7s [t0] h=c5Z t0 h :=
 er d4V (by kernel_rfl) (by kernel_rfl)
noncomputable def c1R (t0 t2 t4:D) (ds:List D) (h_1:Hp):Option Out :=
 (a0i tab .lss ty3 (nth 0 ds) (nth 1 ds)).bind fun t17=>dIf t17
  ((a0i tab .add ty3 (nth 0 ds) (nth 1 ds)).bind fun t20=>(a1m tab ty3 b0t t20).bind fun t21=>(a0i tab .shr b0t t21 (.int .u64 1)).bind fun t22=>(a1m tab b0t ty3 t22).bind fun t23=>(a0b tab a1C t0 t23).bind fun t27=>(a0c tab h_1 a1k t27).bind fun t28=>(a0c tab h_1 a1k t4).bind fun t29=>(a3o R t2 [t28,t29] h_1).bind fun p30=>(a0i tab .lss ty3 p30.1 (.int .i64 0)).bind fun t31=>(dIf t31
  ((a0i tab .add ty3 t23 (.int .i64 1)).bind fun t33=>some (.nrm,[t33,nth 1 ds],p30.2))
  (some (.nrm,[nth 0 ds,t23],p30.2))).bind fun r_1=>some ((a0G 1 r_1.1),[nth 0 r_1.2.1,nth 1 r_1.2.1,t23,t17,t31],r_1.2.2))
  (some ((.ext 0),[nth 0 ds,nth 1 ds,nth 2 ds,t17,nth 4 ds],h_1))
noncomputable def F87 (t0 t1 t2:D) (h:Hp):Option (D × Hp) :=
 (a1B t1).bind fun t4=>(a0t tab a1C t0).bind fun t13=>((a0J (c1R t0 t2 t4) [.int .i64 0,t13,.any,.any,.any] h).bind fun r=>some ((a0G 0 r.1),[nth 0 r.2.1,nth 1 r.2.1,nth 2 r.2.1,nth 3 r.2.1,nth 4 r.2.1],r.2.2)).bind fun r_2=>a0K r_2.1 ((a0i tab .lss ty3 (nth 0 r_2.2.1) t13).bind fun t38=>(gd t38 true (some t2)).bind fun t40=>(gd t38 true (some t0)).bind fun t41=>(gd t38 true (some (nth 0 r_2.2.1))).bind fun t42=>(gd t38 true (a0b tab a1C t41 t42)).bind fun t43=>(gd t38 true (a0c tab r_2.2.2 a1k t43)).bind fun t44=>(gd t38 true (a0c tab r_2.2.2 a1k t4)).bind fun t45=>(gdW t38 true r_2.2.2 (a3o R t40 [t44,t45] r_2.2.2)).bind fun p46=>(gd t38 true (a0i tab .eql ty3 p46.1 (.int .i64 0))).bind fun t47=>(a0R t38 t47 (.bool false)).bind fun t48=>some (a0f [nth 0 r_2.2.1,t48],p46.2)) fun x=>a1c x (some (a0f [.int .i64 0,.bool false],r_2.2.2))
theorem e87 (t0 t1 t2:D) (h:Hp):R d4c [t0,t1,t2] h=F87 t0 t1 t2 h :=
 er d4W (by kernel_rfl) (by kernel_rfl)
noncomputable def F88 (t0 t1:D) (h:Hp):Option (D × Hp) :=
 (a1B t0).bind fun t2=>(a1B t1).bind fun t3=>(a0a tab a1k 0 t2).bind fun t5=>(a0c tab h ty3 t5).bind fun t6=>(a0a tab a1k 0 t3).bind fun t7=>(a0c tab h ty3 t7).bind fun t8=>(R c0W [t6,t8] h).bind fun p9=>(a0a tab a1k 1 t2).bind fun t10=>(a0c tab p9.2 ty9 t10).bind fun t11=>(a0a tab a1k 1 t3).bind fun t12=>(a0c tab p9.2 ty9 t12).bind fun t13=>(R d4d [t11,t13] p9.2).bind fun p14=>(a0W tab a6X 2 [0,1] [p9.1,p14.1]).bind fun t15=>(R c8d [t15] p14.2).bind fun p16=>chk (a0c tab h ty9 t10=some t11)
 (chk (a0c tab h ty9 t12=some t13)
 (some (a0f [p16.1],p16.2)))
theorem e88 (t0 t1:D) (h:Hp):R d0v [t0,t1] h=F88 t0 t1 h :=
 er d4X (by kernel_rfl) (by kernel_rfl)
noncomputable def F91 (t0 t1:D) (h:Hp):Option (D × Hp) :=
 (R c0U [t0] h).bind fun p8=>(R c0U [t1] p8.2).bind fun p10=>dIf p8.1
  (dIf p10.1
  (some (a0f [.int .i64 0],p10.2))
  (some (a0f [.int .i64 (-1)],p10.2)))
  (dIf p10.1
  (some (a0f [.int .i64 1],p10.2))
  ((a0i tab .lss ty9 t0 t1).bind fun t16=>dIf t16
  (some (a0f [.int .i64 (-1)],p10.2))
  ((a0i tab .gtr ty9 t0 t1).bind fun t19=>dIf t19
  (some (a0f [.int .i64 1],p10.2))
  (some (a0f [.int .i64 0],p10.2)))))
theorem e91 (t0 t1:D) (h:Hp):R d4d [t0,t1] h=F91 t0 t1 h :=
 er d4Y (by kernel_rfl) (by kernel_rfl)
noncomputable def a9i (t0 t1 t3:D) (ds_1:List D) (h_2:Hp):Option Out :=
 (a0i tab .gtr ty3 (nth 0 ds_1) t1).bind fun t20=>(gd t20 true (some t3)).bind fun t22=>(gd t20 true (some t0)).bind fun t23=>(gd t20 true (some (nth 0 ds_1))).bind fun t24=>(gd t20 true (a0b tab a1p t23 t24)).bind fun t25=>(gd t20 true (a0c tab h_2 a0T t25)).bind fun t26=>(gd t20 true (some t0)).bind fun t27=>(gd t20 true (some (nth 0 ds_1))).bind fun t28=>(gd t20 true (a0i tab .sub ty3 t28 (.int .i64 1))).bind fun t29=>(gd t20 true (a0b tab a1p t27 t29)).bind fun t30=>(gd t20 true (a0c tab h_2 a0T t30)).bind fun t31=>(gdW t20 true h_2 (a3o R t22 [t26,t31] h_2)).bind fun p32=>(gd t20 true (a0i tab .lss ty3 p32.1 (.int .i64 0))).bind fun t33=>(a0R t20 t33 (.bool false)).bind fun t34=>dIf t34
  ((a0i tab .sub ty3 (nth 0 ds_1) (.int .i64 1)).bind fun t41=>(a0i tab .sub ty3 (nth 0 ds_1) (.int .i64 1)).bind fun t44=>(a0b tab a1p t0 t44).bind fun t45=>(a0c tab p32.2 a0T t45).bind fun t46=>(a0b tab a1p t0 (nth 0 ds_1)).bind fun t49=>(a0c tab p32.2 a0T t49).bind fun t50=>(a0b tab a1p t0 (nth 0 ds_1)).bind fun t51=>((a0p tab p32.2 a0T t51 t46).bind fun h'=>some ((.und:D),h')).bind fun p915=>(a0b tab a1p t0 t41).bind fun t52=>((a0p tab p915.2 a0T t52 t50).bind fun h'=>some ((.und:D),h')).bind fun p917=>(a0i tab .sub ty3 (nth 0 ds_1) (.int .i64 1)).bind fun t36=>some (.nrm,[t36,t34],p917.2))
  (some ((.ext 2),[nth 0 ds_1,t34],p32.2))
noncomputable def a9h (t0 t1 t2 t3:D) (ds:List D) (h_1:Hp):Option Out :=
 (a0i tab .lss ty3 (nth 0 ds) t2).bind fun t14=>dIf t14
  (((a0J (a9i t0 t1 t3) [nth 0 ds,nth 3 ds] h_1).bind fun r_1=>some ((a0G 2 r_1.1),[nth 0 r_1.2.1,nth 1 r_1.2.1],r_1.2.2)).bind fun r_2=>a0K (a0G 1 r_2.1) ((a0i tab .add ty3 (nth 0 ds) (.int .i64 1)).bind fun t16=>some (.nrm,[t16,nth 0 r_2.2.1,t14,nth 1 r_2.2.1],r_2.2.2)) fun x=>some (x,[nth 0 ds,nth 0 r_2.2.1,t14,nth 1 r_2.2.1],r_2.2.2))
  (some ((.ext 0),[nth 0 ds,nth 1 ds,t14,nth 3 ds],h_1))
noncomputable def c3u (t0 t1 t2 t3:D) (h:Hp):Option (D × Hp) :=
 (a0i tab .add ty3 t1 (.int .i64 1)).bind fun t11=>((a0J (a9h t0 t1 t2 t3) [t11,.any,.any,.any] h).bind fun r=>some ((a0G 0 r.1),[nth 0 r.2.1,nth 1 r.2.1,nth 2 r.2.1,nth 3 r.2.1],r.2.2)).bind fun r_3=>a1c r_3.1 (some (a0f [],r_3.2.2))
theorem c7S (t0 t1 t2 t3:D) (h:Hp):R a6Q [t0,t1,t2,t3] h=c3u t0 t1 t2 t3 h :=
 er d4Z (by kernel_rfl) (by kernel_rfl)
noncomputable def c6a (t0:D) (h:Hp):Option (D × Hp) :=
 (a0i tab .geq ty5 t0 (.int .u8 48)).bind fun t4=>(gd t4 true (some t0)).bind fun t6=>(gd t4 true (a0i tab .leq ty5 t6 (.int .u8 57))).bind fun t7=>(a0R t4 t7 (.bool false)).bind fun t8=>some (a0f [t8],h)
theorem d1r (t0:D) (h:Hp):R b7t [t0] h=c6a t0 h :=
 er d5a (by kernel_rfl) (by kernel_rfl)
noncomputable def d7a (t0:D) (h:Hp):Option (D × Hp) :=
 (a0i tab .neq ty9 t0 t0).bind fun t5=>some (a0f [t5],h)
theorem d7D (t0:D) (h:Hp):R c0U [t0] h=d7a t0 h :=
 er d5b (by kernel_rfl) (by kernel_rfl)
noncomputable def c6Z (t0 t1:D) (h:Hp):Option (D × Hp) :=
 (a0h tab t0).bind fun t7=>(a0a tab a2j 0 t7).bind fun t8=>(a0c tab h a0L t8).bind fun t9=>(a1m tab ty3 a1h t1).bind fun t11=>(R a4o [t9,t11,.int .i64 4] h).bind fun p12=>(a0h tab t0).bind fun t13=>(a0a tab a2j 0 t13).bind fun t14=>((a0p tab p12.2 a0L t14 p12.1).bind fun h'=>some ((.und:D),h')).bind fun p910=>some (a0f [t1],p910.2)
theorem d2w (t0 t1:D) (h:Hp):R b7M [t0,t1] h=c6Z t0 t1 h :=
 er d5c (by kernel_rfl) (by kernel_rfl)
noncomputable def c7a (t0 t1:D) (h:Hp):Option (D × Hp) :=
 (a0h tab t0).bind fun t6=>(a0a tab a2j 0 t6).bind fun t7=>(a0c tab h a0L t7).bind fun t8=>(a0h tab t1).bind fun t10=>(a0c tab h ty3 t10).bind fun t11=>(a1m tab ty3 a1h t11).bind fun t12=>(R a4o [t8,t12,.int .i64 8] h).bind fun p13=>(a0h tab t0).bind fun t14=>(a0a tab a2j 0 t14).bind fun t15=>((a0p tab p13.2 a0L t15 p13.1).bind fun h'=>some ((.und:D),h')).bind fun p912=>some (a0f [],p912.2)
theorem d2x (t0 t1:D) (h:Hp):R b7N [t0,t1] h=c7a t0 t1 h :=
 er d5d (by kernel_rfl) (by kernel_rfl)
noncomputable def c7b (t0 t1:D) (h:Hp):Option (D × Hp) :=
 (a0h tab t0).bind fun t6=>(a0a tab a2j 0 t6).bind fun t7=>(a0c tab h a0L t7).bind fun t8=>(a0h tab t1).bind fun t10=>(a0c tab h ty9 t10).bind fun t11=>(a0t tab ty9 t11).bind fun t12=>(a1m tab ty3 a1h t12).bind fun t13=>(R a4o [t8,t13,.int .i64 4] h).bind fun p14=>(a0h tab t1).bind fun t16=>(a0c tab p14.2 ty9 t16).bind fun t17=>(a0q tab p14.2 a0L ty9 p14.1 t17).bind fun p18=>(a0h tab t0).bind fun t19=>(a0a tab a2j 0 t19).bind fun t20=>((a0p tab p18.2 a0L t20 p18.1).bind fun h'=>some ((.und:D),h')).bind fun p917=>chk (a0c tab h ty9 t16=some t17)
 (some (a0f [],p917.2))
theorem d2y (t0 t1:D) (h:Hp):R b7O [t0,t1] h=c7b t0 t1 h :=
 er d5e (by kernel_rfl) (by kernel_rfl)
noncomputable def c7c (t0 t1:D) (h:Hp):Option (D × Hp) :=
 (R a6k [t0,.int .i64 4] h).bind fun p7=>(R a6R [p7.1] p7.2).bind fun p8=>(a1m tab a1h ty3 p8.1).bind fun t9=>(a0h tab t0).bind fun t11=>(a0a tab a1O 1 t11).bind fun t12=>(a0c tab p8.2 ty4 t12).bind fun t13=>(gd t13 false (some t9)).bind fun t15=>(gd t13 false (some t0)).bind fun t16=>(gd t13 false (a0h tab t16)).bind fun t17=>(gd t13 false (a0a tab a1O 0 t17)).bind fun t18=>(gd t13 false (a0c tab p8.2 a0L t18)).bind fun t19=>(gd t13 false (a0t tab a0L t19)).bind fun t20=>(gd t13 false (a0i tab .quo ty3 t20 (.int .i64 8))).bind fun t21=>(gd t13 false (a0i tab .gtr ty3 t15 t21)).bind fun t22=>(a0R t13 (.bool true) t22).bind fun t23=>dIf t23
  ((a0h tab t0).bind fun t25=>(a0a tab a1O 1 t25).bind fun t26=>((a0p tab p8.2 ty4 t26 (.bool true)).bind fun h'=>some ((.und:D),h')).bind fun p903=>some (a0f [.int .i64 0],p903.2))
  (some (a0f [t9],p8.2))
theorem d2z (t0 t1:D) (h:Hp):R b4C [t0,t1] h=c7c t0 t1 h :=
 er d5f (by kernel_rfl) (by kernel_rfl)
noncomputable def c7d (t0 t1:D) (h:Hp):Option (D × Hp) :=
 (R a6k [t0,.int .i64 8] h).bind fun p6=>(R a6R [p6.1] p6.2).bind fun p7=>(a1m tab a1h ty3 p7.1).bind fun t8=>(a0h tab t1).bind fun t9=>((a0p tab p7.2 ty3 t9 t8).bind fun h'=>some ((.und:D),h')).bind fun p906=>some (a0f [],p906.2)
theorem d2A (t0 t1:D) (h:Hp):R b4D [t0,t1] h=c7d t0 t1 h :=
 er d5g (by kernel_rfl) (by kernel_rfl)
noncomputable def c7e (t0 t1:D) (h:Hp):Option (D × Hp) :=
 (R a6k [t0,.int .i64 4] h).bind fun p7=>(R a6R [p7.1] p7.2).bind fun p8=>(a1m tab a1h ty3 p8.1).bind fun t9=>(R a6k [t0,t9] p8.2).bind fun p12=>(a0h tab t0).bind fun t14=>(a0a tab a1O 1 t14).bind fun t15=>(a0c tab p12.2 ty4 t15).bind fun t16=>(dUn .not t16).bind fun t17=>(dIf t17
  ((a7G p12.2 p12.1).bind fun t20=>(a0h tab t1).bind fun t21=>((a0p tab p12.2 ty9 t21 t20).bind fun h'=>some ((.und:D),h')).bind fun p904=>some (.nrm,([]:List D),p904.2))
  (some (.nrm,([]:List D),p12.2))).bind fun r=>a1c r.1 (some (a0f [],r.2.2))
theorem d2B (t0 t1:D) (h:Hp):R b4E [t0,t1] h=c7e t0 t1 h :=
 er d5h (by kernel_rfl) (by kernel_rfl)
noncomputable def c7f (t0 t1:D) (h:Hp):Option (D × Hp) :=
 (a0h tab t0).bind fun t7=>(a0a tab a1O 1 t7).bind fun t8=>(a0c tab h ty4 t8).bind fun t9=>(gd t9 false (some t1)).bind fun t11=>(gd t9 false (a0i tab .lss ty3 t11 (.int .i64 0))).bind fun t12=>(a0R t9 (.bool true) t12).bind fun t13=>(gd t13 false (some t1)).bind fun t15=>(gd t13 false (some t0)).bind fun t16=>(gd t13 false (a0h tab t16)).bind fun t17=>(gd t13 false (a0a tab a1O 0 t17)).bind fun t18=>(gd t13 false (a0c tab h a0L t18)).bind fun t19=>(gd t13 false (a0t tab a0L t19)).bind fun t20=>(gd t13 false (a0i tab .gtr ty3 t15 t20)).bind fun t21=>(a0R t13 (.bool true) t21).bind fun t22=>dIf t22
  ((a0h tab t0).bind fun t24=>(a0a tab a1O 1 t24).bind fun t25=>((a0p tab h ty4 t25 (.bool true)).bind fun h'=>some ((.und:D),h')).bind fun p903=>some (a0f [.nils],p903.2))
  ((a0h tab t0).bind fun t27=>(a0a tab a1O 0 t27).bind fun t28=>(a0c tab h a0L t28).bind fun t29=>(a0D tab a0L false true false [t29,t1]).bind fun t31=>(a0h tab t0).bind fun t34=>(a0a tab a1O 0 t34).bind fun t35=>(a0c tab h a0L t35).bind fun t36=>(a0D tab a0L true false false [t36,t1]).bind fun t38=>(a0h tab t0).bind fun t39=>(a0a tab a1O 0 t39).bind fun t40=>((a0p tab h a0L t40 t38).bind fun h'=>some ((.und:D),h')).bind fun p909=>some (a0f [t31],p909.2))
theorem d2C (t0 t1:D) (h:Hp):R a6k [t0,t1] h=c7f t0 t1 h :=
 er d5i (by kernel_rfl) (by kernel_rfl)
end Go.Proofs.YthaajlepgblimaaGreatDoor
