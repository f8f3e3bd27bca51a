/- Functions as Lean functions on data. -/
import Derived.Test.YthaajlepgblimaaGreatDoorC1
set_option linter.unusedSimpArgs false
set_option linter.unusedVariables false
set_option linter.unnecessarySimpa false
set_option maxRecDepth 100000
namespace Go.Proofs.YthaajlepgblimaaGreatDoor
open Go.Eng Go.Pi
noncomputable def a8B (t5m : D) (ds : List D) (h_1 : Hp) : Option Out :=
 (a0y tab a1c t5m).bind fun t57 =>
 (a0k tab .lss ty3 (nth 1 ds) t57).bind fun t58 =>
 dIf t58
  ((a0b tab a1c t5m (nth 1 ds)).bind fun t63 =>
 (a0a tab a0w 1 t63).bind fun t64 =>
 (a0c tab h_1 ty9 t64).bind fun t65 =>
 (a0y tab ty9 t65).bind fun t66 =>
 (a0k tab .gtr ty3 t66 (.int .i64 2000)).bind fun t67 =>
 dIf t67
  (some (.ret,[.int .i64 3,nth 1 ds,t58,t67],h_1))
  ((a0k tab .add ty3 (nth 1 ds) (.int .i64 1)).bind fun t60 =>
 some (.nrm,[nth 0 ds,t60,t58,t67],h_1)))
  (some ((.ext 0),[nth 0 ds,nth 1 ds,t58,nth 3 ds],h_1))
noncomputable def c2Z (t0 : D) (h : Hp) : Option (D × Hp) :=
 (a2p t0).bind fun t1 =>
 (a0c tab h a0E t1).bind fun t8 =>
 (R b2V [t8] h).bind fun p9 =>
 (a0k tab .neq a5n p9.1 (.int .i64 0)).bind fun t11 =>
 (gd t11 false (a0a tab a0E 5 t1)).bind fun t13 =>
 (gd t11 false (a0c tab p9.2 ty3 t13)).bind fun t14 =>
 (gd t11 false (a0k tab .lss ty3 t14 (.int .i64 0))).bind fun t15 =>
 (a0M t11 (.bool true) t15).bind fun t16 =>
 (gd t16 false (a0a tab a0E 5 t1)).bind fun t18 =>
 (gd t16 false (a0c tab p9.2 ty3 t18)).bind fun t19 =>
 (gd t16 false (a0k tab .gtr ty3 t19 (.int .i64 253402300799999))).bind fun t20 =>
 (a0M t16 (.bool true) t20).bind fun t21 =>
 dIf t21
  (some (a0i [.int .i64 2],p9.2))
  ((a0a tab a0E 6 t1).bind fun t22 =>
 (a0c tab p9.2 ty3 t22).bind fun t23 =>
 (R b5F [t23] p9.2).bind fun p24 =>
 (dUn .not p24.1).bind fun t25 =>
 dIf t25
  (some (a0i [.int .i64 21],p24.2))
  ((a0c tab p24.2 a0E t1).bind fun t26 =>
 (R b2W [t26,.int .i64 2000] p24.2).bind fun p27 =>
 (a0k tab .neq a5n p27.1 (.int .i64 0)).bind fun t29 =>
 dIf t29
  (some (a0i [p27.1],p27.2))
  ((a0a tab a0E 7 t1).bind fun t31 =>
 (a0c tab p27.2 ty9 t31).bind fun t32 =>
 (a0y tab ty9 t32).bind fun t33 =>
 (a0k tab .gtr ty3 t33 (.int .i64 32)).bind fun t34 =>
 (gd t34 false (a0a tab a0E 8 t1)).bind fun t36 =>
 (gd t34 false (a0c tab p27.2 ty9 t36)).bind fun t37 =>
 (gd t34 false (a0y tab ty9 t37)).bind fun t38 =>
 (gd t34 false (a0k tab .gtr ty3 t38 (.int .i64 32))).bind fun t39 =>
 (a0M t34 (.bool true) t39).bind fun t40 =>
 dIf t40
  (some (a0i [.int .i64 3],p27.2))
  ((a0a tab a0E 9 t1).bind fun t42 =>
 (a0c tab p27.2 a1c t42).bind fun t43 =>
 (R b2X [t43] p27.2).bind fun p44 =>
 (a0p 0 p44.1).bind fun t45 =>
 (a0p 1 p44.1).bind fun t46 =>
 (a0k tab .neq a5n t46 (.int .i64 0)).bind fun t48 =>
 dIf t48
  (some (a0i [t46],p44.2))
  ((a0a tab a0E 9 t1).bind fun t51 =>
 (a0c tab p44.2 a1c t51).bind fun t52 =>
 (R c6P [t45,t52] p44.2).bind fun p53 =>
 (dUn .not p53.1).bind fun t54 =>
 dIf t54
  (some (a0i [.int .i64 19],p53.2))
  (((a0I (a8B t45) [.int .i64 0,.int .i64 0,.any,.any] p53.2).bind fun r =>
 some ((a0L 0 r.1),[nth 0 r.2.1,nth 1 r.2.1,nth 2 r.2.1,nth 3 r.2.1],r.2.2)).bind fun r_1 =>
 a0Q r_1.1 (some (a0i [.int .i64 0],r_1.2.2)) fun x => a1a x (some (a0i [nth 0 r_1.2.1],r_1.2.2))))))))
theorem c7v (t0 : D) (h : Hp) : R b5E [t0] h = c2Z t0 h :=
 er i95 (by kernel_rfl) (by kernel_rfl)
noncomputable def c3a (t0 : D) (h : Hp) : Option (D × Hp) :=
 (a2p t0).bind fun t1 =>
 (a0a tab a0E 0 t1).bind fun t3 =>
 (a0c tab h ty3 t3).bind fun t4 =>
 (a0k tab .lss ty3 t4 (.int .i64 0)).bind fun t5 =>
 (gd t5 false (a0a tab a0E 0 t1)).bind fun t7 =>
 (gd t5 false (a0c tab h ty3 t7)).bind fun t8 =>
 (gd t5 false (a0k tab .gtr ty3 t8 (.int .i64 999))).bind fun t9 =>
 (a0M t5 (.bool true) t9).bind fun t10 =>
 (gd t10 false (a0a tab a0E 1 t1)).bind fun t12 =>
 (gd t10 false (a0c tab h ty3 t12)).bind fun t13 =>
 (gd t10 false (a0k tab .lss ty3 t13 (.int .i64 0))).bind fun t14 =>
 (a0M t10 (.bool true) t14).bind fun t15 =>
 (gd t15 false (a0a tab a0E 1 t1)).bind fun t17 =>
 (gd t15 false (a0c tab h ty3 t17)).bind fun t18 =>
 (gd t15 false (a0k tab .gtr ty3 t18 (.int .i64 2147483646))).bind fun t19 =>
 (a0M t15 (.bool true) t19).bind fun t20 =>
 (gd t20 false (a0a tab a0E 2 t1)).bind fun t22 =>
 (gd t20 false (a0c tab h ty3 t22)).bind fun t23 =>
 (gd t20 false (a0k tab .lss ty3 t23 (.int .i64 0))).bind fun t24 =>
 (a0M t20 (.bool true) t24).bind fun t25 =>
 (gd t25 false (a0a tab a0E 3 t1)).bind fun t27 =>
 (gd t25 false (a0c tab h ty3 t27)).bind fun t28 =>
 (gd t25 false (a0a tab a0E 2 t1)).bind fun t29 =>
 (gd t25 false (a0c tab h ty3 t29)).bind fun t30 =>
 (gd t25 false (a0k tab .leq ty3 t28 t30)).bind fun t31 =>
 (a0M t25 (.bool true) t31).bind fun t32 =>
 (gd t32 false (a0a tab a0E 3 t1)).bind fun t34 =>
 (gd t32 false (a0c tab h ty3 t34)).bind fun t35 =>
 (gd t32 false (a0k tab .gtr ty3 t35 (.int .i64 60000))).bind fun t36 =>
 (a0M t32 (.bool true) t36).bind fun t37 =>
 dIf t37
  (some (a0i [.int .i64 2],h))
  (some (a0i [.int .i64 0],h))
theorem c7w (t0 : D) (h : Hp) : R b2V [t0] h = c3a t0 h :=
 er i96 (by kernel_rfl) (by kernel_rfl)
noncomputable def b2b (t1 t2 : D) (ds : List D) (h_1 : Hp) : Option Out :=
 (a0a tab a0E 4 t2).bind fun t19 =>
 (a0c tab h_1 a1u t19).bind fun t20 =>
 (a0y tab a1u t20).bind fun t21 =>
 (a0k tab .lss ty3 (nth 2 ds) t21).bind fun t22 =>
 dIf t22
  ((a0a tab a0E 4 t2).bind fun t25 =>
 (a0c tab h_1 a1u t25).bind fun t26 =>
 (a0b tab a1u t26 (nth 2 ds)).bind fun t28 =>
 (a0c tab h_1 a1A t28).bind fun t29 =>
 (a6t 3 t29).bind fun t7 =>
 (a0a tab a1A 0 t7).bind fun t30 =>
 (a0c tab h_1 ty3 t30).bind fun t31 =>
 (a0k tab .neq ty3 t31 (nth 1 ds)).bind fun t33 =>
 (gd t33 false (a0a tab a1A 1 t7)).bind fun t35 =>
 (gd t33 false (a0c tab h_1 ty3 t35)).bind fun t36 =>
 (gd t33 false (a0k tab .lss ty3 t36 (.int .i64 1))).bind fun t37 =>
 (a0M t33 (.bool true) t37).bind fun t38 =>
 (gd t38 false (a0a tab a1A 1 t7)).bind fun t40 =>
 (gd t38 false (a0c tab h_1 ty3 t40)).bind fun t41 =>
 (gd t38 false (a0a tab a0E 3 t2)).bind fun t42 =>
 (gd t38 false (a0c tab h_1 ty3 t42)).bind fun t43 =>
 (gd t38 false (some (nth 1 ds))).bind fun t44 =>
 (gd t38 false (a0k tab .sub ty3 t43 t44)).bind fun t45 =>
 (gd t38 false (a0k tab .gtr ty3 t41 t45)).bind fun t46 =>
 (a0M t38 (.bool true) t46).bind fun t47 =>
 (gd t47 false (some (nth 2 ds))).bind fun t49 =>
 (gd t47 false (a0a tab a0E 4 t2)).bind fun t50 =>
 (gd t47 false (a0c tab h_1 a1u t50)).bind fun t51 =>
 (gd t47 false (a0y tab a1u t51)).bind fun t52 =>
 (gd t47 false (a0k tab .sub ty3 t52 (.int .i64 1))).bind fun t53 =>
 (gd t47 false (a0k tab .eql ty3 t49 t53)).bind fun t54 =>
 (gd t47 false (some t54)).bind fun t55 =>
 (gd t55 true (a0a tab a1A 1 t7)).bind fun t56 =>
 (gd t55 true (a0c tab h_1 ty3 t56)).bind fun t57 =>
 (gd t55 true (a0a tab a0E 3 t2)).bind fun t58 =>
 (gd t55 true (a0c tab h_1 ty3 t58)).bind fun t59 =>
 (gd t55 true (some (nth 1 ds))).bind fun t60 =>
 (gd t55 true (a0k tab .sub ty3 t59 t60)).bind fun t61 =>
 (gd t55 true (a0k tab .neq ty3 t57 t61)).bind fun t62 =>
 (gd t47 false (a0M t55 t62 (.bool false))).bind fun t63 =>
 (a0M t47 (.bool true) t63).bind fun t64 =>
 dIf t64
  (some (.ret,[.int .i64 19,nth 1 ds,nth 2 ds,t7,t22,t64,nth 6 ds],h_1))
  ((a0a tab a1A 2 t7).bind fun t65 =>
 (a0c tab h_1 ty9 t65).bind fun t66 =>
 (a0y tab ty9 t66).bind fun t67 =>
 (a0k tab .gtr ty3 t67 t1).bind fun t69 =>
 dIf t69
  (some (.ret,[.int .i64 3,nth 1 ds,nth 2 ds,t7,t22,t64,t69],h_1))
  ((a0a tab a1A 1 t7).bind fun t71 =>
 (a0c tab h_1 ty3 t71).bind fun t72 =>
 (a0k tab .add ty3 (nth 1 ds) t72).bind fun t73 =>
 (a0k tab .add ty3 (nth 2 ds) (.int .i64 1)).bind fun t24 =>
 some (.nrm,[nth 0 ds,t73,t24,t7,t22,t64,t69],h_1))))
  (some ((.ext 0),[nth 0 ds,nth 1 ds,nth 2 ds,nth 3 ds,t22,nth 5 ds,nth 6 ds],h_1))
noncomputable def c3b (t0 t1 : D) (h : Hp) : Option (D × Hp) :=
 (a2p t0).bind fun t2 =>
 (a0a tab a0E 4 t2).bind fun t8 =>
 (a0c tab h a1u t8).bind fun t9 =>
 (a0y tab a1u t9).bind fun t10 =>
 (a0k tab .eql ty3 t10 (.int .i64 0)).bind fun t11 =>
 dIf t11
  (some (a0i [.int .i64 9],h))
  ((a0a tab a0E 4 t2).bind fun t12 =>
 (a0c tab h a1u t12).bind fun t13 =>
 (a0y tab a1u t13).bind fun t14 =>
 (a0k tab .gtr ty3 t14 (.int .i64 40)).bind fun t15 =>
 dIf t15
  (some (a0i [.int .i64 4],h))
  ((a0a tab a0E 2 t2).bind fun t16 =>
 (a0c tab h ty3 t16).bind fun t17 =>
 ((a0I (b2b t1 t2) [.int .i64 0,t17,.int .i64 0,.any,.any,.any,.any] h).bind fun r =>
 some ((a0L 0 r.1),[nth 0 r.2.1,nth 1 r.2.1,nth 2 r.2.1,nth 3 r.2.1,nth 4 r.2.1,nth 5 r.2.1,nth 6 r.2.1],r.2.2)).bind fun r_1 =>
 a0Q r_1.1 (some (a0i [.int .i64 0],r_1.2.2)) fun x => a1a x (some (a0i [nth 0 r_1.2.1],r_1.2.2))))
theorem c7x (t0 t1 : D) (h : Hp) : R b2W [t0,t1] h = c3b t0 t1 h :=
 er i97 (by kernel_rfl) (by kernel_rfl)
noncomputable def c3Q (t0 t1 : D) (h : Hp) : Option (D × Hp) :=
 (a0y tab ty9 t1).bind fun t7 =>
 (a0Z tab ty3 a0J t7).bind fun t8 =>
 (R a3A [t0,t8,.int .i64 4] h).bind fun p9 =>
 (a0C tab p9.2 a0H ty9 p9.1 t1).bind fun p11 =>
 some (a0i [p11.1],p11.2)
theorem c8v (t0 t1 : D) (h : Hp) : R a5Q [t0,t1] h = c3Q t0 t1 h :=
 er i98 (by kernel_rfl) (by kernel_rfl)
noncomputable def c3R (t0 t1 : D) (h : Hp) : Option (D × Hp) :=
 (a0Z tab ty3 a0J t1).bind fun t7 =>
 (R a3A [t0,t7,.int .i64 8] h).bind fun p8 =>
 some (a0i [p8.1],p8.2)
theorem c8w (t0 t1 : D) (h : Hp) : R a4t [t0,t1] h = c3R t0 t1 h :=
 er i99 (by kernel_rfl) (by kernel_rfl)
noncomputable def c0S (t0 : D) (h : Hp) : Option (D × Hp) :=
 (a0k tab .eql a1c t0 (.nils)).bind fun t4 =>
 dIf t4
  (some (a0i [.nils],h))
  ((a1h tab a1c 0 [] []).bind fun t5 =>
 (a0C tab h a1c a1c t5 t0).bind fun p7 =>
 some (a0i [p7.1],p7.2))
theorem c7u (t0 : D) (h : Hp) : R b5D [t0] h = c0S t0 h :=
 er c9V (by kernel_rfl) (by kernel_rfl)
noncomputable def b9U (t0 : D) (ds : List D) (h_1 : Hp) : Option Out :=
 (a0k tab .gtr ty3 (nth 1 ds) (.int .i64 0)).bind fun t10 =>
 dIf t10
  ((a1h tab a5r 5 [0,1,2,3,4] [.str [32],.str [32],.str [44,32],.str [61],.str []]).bind fun t14 =>
 (R a5q [t0,.int .i64 5] h_1).bind fun p16 =>
 (a0b tab a5r t14 p16.1).bind fun t17 =>
 (a0c tab p16.2 ty9 t17).bind fun t18 =>
 (R b9g [t0] p16.2).bind fun p20 =>
 (a0k tab .add ty9 t18 p20.1).bind fun t21 =>
 (a0k tab .add ty9 (nth 0 ds) t21).bind fun t22 =>
 chk (a0c tab p20.2 ty9 t17 = some t18)
 ((a0k tab .sub ty3 (nth 1 ds) (.int .i64 1)).bind fun t12 =>
 some (.nrm,[t22,t12,t10],p20.2)))
  (some ((.ext 0),[nth 0 ds,nth 1 ds,t10],h_1))
noncomputable def F96 (t0 : D) (h : Hp) : Option (D × Hp) :=
 (R b9g [t0] h).bind fun p6 =>
 (R a5q [t0,.int .i64 4] p6.2).bind fun p8 =>
 ((a0I (b9U t0) [p6.1,p8.1,.any] p8.2).bind fun r =>
 some ((a0L 0 r.1),[nth 0 r.2.1,nth 1 r.2.1,nth 2 r.2.1],r.2.2)).bind fun r_1 =>
 a0Q r_1.1 (some (a0i [nth 0 r_1.2.1],r_1.2.2)) fun x => a1a x (some (a0i [.str []],r_1.2.2))
theorem e96 (t0 : D) (h : Hp) : R c6Q [t0] h = F96 t0 h :=
 er c9W (by kernel_rfl) (by kernel_rfl)
noncomputable def F35 (t0 : D) (h : Hp) : Option (D × Hp) :=
 (R a5q [t0,.int .i64 4] h).bind fun p4 =>
 (a0k tab .eql ty3 p4.1 (.int .i64 0)).bind fun t6 =>
 dIf t6
  ((R a5q [t0,.int .i64 40] p4.2).bind fun p8 =>
 (a0k tab .mul ty3 p8.1 (.int .i64 86400000)).bind fun t9 =>
 some (a0i [t9],p8.2))
  ((a0k tab .eql ty3 p4.1 (.int .i64 1)).bind fun t11 =>
 dIf t11
  ((R a5q [t0,.int .i64 3] p4.2).bind fun p13 =>
 (a0k tab .mul ty3 p13.1 (.int .i64 86400000)).bind fun t14 =>
 (a0k tab .sub ty3 (.int .i64 253402300799999) t14).bind fun t15 =>
 some (a0i [t15],p13.2))
  ((R a5q [t0,.int .i64 60] p4.2).bind fun p17 =>
 (a0k tab .add ty3 (.int .i64 1000) p17.1).bind fun t18 =>
 some (a0i [t18],p17.2)))
theorem e35 (t0 : D) (h : Hp) : R c6L [t0] h = F35 t0 h :=
 er c9X (by kernel_rfl) (by kernel_rfl)
noncomputable def F97 (t0 : D) (h : Hp) : Option (D × Hp) :=
 (a1h tab b1i 6 [0,1,2,3,4,5] [.int .i64 1,.int .i64 1,.int .i64 2,.int .i64 5,.int .i64 10,.int .i64 5040]).bind fun t3 =>
 (R a5q [t0,.int .i64 6] h).bind fun p5 =>
 (a0b tab b1i t3 p5.1).bind fun t6 =>
 (a0c tab p5.2 ty3 t6).bind fun t7 =>
 some (a0i [t7],p5.2)
theorem e97 (t0 : D) (h : Hp) : R c6R [t0] h = F97 t0 h :=
 er c9Y (by kernel_rfl) (by kernel_rfl)
noncomputable def b9V (t0 t4m : D) (ds : List D) (h_1 : Hp) : Option Out :=
 (a0y tab a5r t4m).bind fun t9 =>
 (a0k tab .lss ty3 (nth 1 ds) t9).bind fun t10 =>
 dIf t10
  ((R a5q [t0,.int .i64 3] h_1).bind fun p14 =>
 (a0k tab .eql ty3 p14.1 (.int .i64 1)).bind fun t15 =>
 (dIf t15
  ((a0b tab a5r t4m (nth 1 ds)).bind fun t19 =>
 (a0c tab p14.2 ty9 t19).bind fun t20 =>
 (R c9N [t0] p14.2).bind fun p22 =>
 (a0X tab a0w [0,1] [t20,p22.1]).bind fun t23 =>
 (a1h tab a1c 1 [0] [t23]).bind fun t24 =>
 (a0C tab p22.2 a1c a1c (nth 0 ds) t24).bind fun p25 =>
 chk (a0c tab p22.2 ty9 t19 = some t20)
 (some (.nrm,[p25.1],p25.2)))
  (some (.nrm,[nth 0 ds],p14.2))).bind fun r_1 =>
 a0Q (a0L 1 r_1.1) ((a0k tab .add ty3 (nth 1 ds) (.int .i64 1)).bind fun t12 =>
 some (.nrm,[nth 0 r_1.2.1,t12,t10,t15],r_1.2.2)) fun x => some (x,[nth 0 r_1.2.1,nth 1 ds,t10,t15],r_1.2.2))
  (some ((.ext 0),[nth 0 ds,nth 1 ds,t10,nth 3 ds],h_1))
noncomputable def F98 (t0 : D) (h : Hp) : Option (D × Hp) :=
 (a1h tab a5r 4 [0,1,2,3] [.str [99,111,100,101],.str [108,101,118,101,108],.str [109,115],.str [117,115,101,114]]).bind fun t6 =>
 ((a0I (b9V t0 t6) [.nils,.int .i64 0,.any,.any] h).bind fun r =>
 some ((a0L 0 r.1),[nth 0 r.2.1,nth 1 r.2.1,nth 2 r.2.1,nth 3 r.2.1],r.2.2)).bind fun r_2 =>
 a0Q r_2.1 (scope h r_2.2.2 (a0i [nth 0 r_2.2.1])) fun x_1 => a1a x_1 (scope h r_2.2.2 (a0i [.nils]))
theorem e98 (t0 : D) (h : Hp) : R c4U [t0] h = F98 t0 h :=
 er c9Z (by kernel_rfl) (by kernel_rfl)
noncomputable def c3u (t0 t1 t2 : D) (h : Hp) : Option (D × Hp) :=
 (a0k tab .leq ty3 t1 t0).bind fun t9 =>
 (gd t9 true (some t0)).bind fun t11 =>
 (gd t9 true (some t2)).bind fun t12 =>
 (gd t9 true (a0k tab .leq ty3 t11 t12)).bind fun t13 =>
 (a0M t9 t13 (.bool false)).bind fun t14 =>
 some (a0i [t14],h)
theorem c7U (t0 t1 t2 : D) (h : Hp) : R a8j [t0,t1,t2] h = c3u t0 t1 t2 h :=
 er d0a (by kernel_rfl) (by kernel_rfl)
noncomputable def a8G (t10m t11 : D) (ds : List D) (h_1 : Hp) : Option Out :=
 (a0k tab .lss ty3 (nth 3 ds) t11).bind fun t13 =>
 dIf t13
  ((a0b tab a1c t10m (nth 3 ds)).bind fun t14 =>
 (a0c tab h_1 a0w t14).bind fun t15 =>
 (a6t 2 t15).bind fun t5 =>
 (a0a tab a0w 0 t5).bind fun t16 =>
 (a0c tab h_1 ty9 t16).bind fun t17 =>
 (R b5S [t17] h_1).bind fun p18 =>
 (dUn .not p18.1).bind fun t19 =>
 dIf t19
  (some (.ret,[.nils,.int .i64 6,t5,nth 3 ds,t13,t19],p18.2))
  ((a0k tab .add ty3 (nth 3 ds) (.int .i64 1)).bind fun t20 =>
 some (.nrm,[nth 0 ds,nth 1 ds,t5,t20,t13,t19],p18.2)))
  (some ((.ext 0),[nth 0 ds,nth 1 ds,nth 2 ds,nth 3 ds,t13,nth 5 ds],h_1))
noncomputable def a8H (t0m : D) (ds_1 : List D) (h_2 : Hp) : Option Out :=
 (a0y tab a1c t0m).bind fun t27 =>
 (a0k tab .lss ty3 (nth 2 ds_1) t27).bind fun t28 =>
 dIf t28
  ((a0b tab a1c t0m (nth 2 ds_1)).bind fun t33 =>
 (a0a tab a0w 0 t33).bind fun t34 =>
 (a0c tab h_2 ty9 t34).bind fun t35 =>
 (a0k tab .sub ty3 (nth 2 ds_1) (.int .i64 1)).bind fun t38 =>
 (a0b tab a1c t0m t38).bind fun t39 =>
 (a0a tab a0w 0 t39).bind fun t40 =>
 (a0c tab h_2 ty9 t40).bind fun t41 =>
 (a0k tab .eql ty9 t35 t41).bind fun t42 =>
 dIf t42
  (some (.ret,[.nils,.int .i64 7,nth 2 ds_1,t28,t42],h_2))
  ((a0k tab .add ty3 (nth 2 ds_1) (.int .i64 1)).bind fun t30 =>
 some (.nrm,[nth 0 ds_1,nth 1 ds_1,t30,t28,t42],h_2)))
  (some ((.ext 2),[nth 0 ds_1,nth 1 ds_1,nth 2 ds_1,t28,nth 4 ds_1],h_2))
noncomputable def c0W (t0 : D) (h : Hp) : Option (D × Hp) :=
 (a0y tab a1c t0).bind fun t8 =>
 (a0k tab .gtr ty3 t8 (.int .i64 32)).bind fun t9 =>
 dIf t9
  (some (a0i [.nils,.int .i64 4],h))
  ((a0y tab a1c t0).bind fun t11 =>
 ((a0I (a8G t0 t11) [.nils,.int .i64 0,.any,.int .i64 0,.any,.any] h).bind fun r =>
 some ((a0L 0 r.1),[nth 0 r.2.1,nth 1 r.2.1,nth 2 r.2.1,nth 3 r.2.1,nth 4 r.2.1,nth 5 r.2.1],r.2.2)).bind fun r_1 =>
 a0Q r_1.1 ((R b5D [t0] r_1.2.2).bind fun p22 =>
 (R b0t [p22.1,.fn (.func a7t) [] []] p22.2).bind fun p24 =>
 ((a0I (a8H p22.1) [nth 0 r_1.2.1,nth 1 r_1.2.1,.int .i64 1,.any,.any] p24.2).bind fun r_2 =>
 some ((a0L 2 r_2.1),[nth 0 r_2.2.1,nth 1 r_2.2.1,nth 2 r_2.2.1,nth 3 r_2.2.1,nth 4 r_2.2.1],r_2.2.2)).bind fun r_3 =>
 a0Q r_3.1 (some (a0i [p22.1,.int .i64 0],r_3.2.2)) fun x_1 => a1a x_1 (some (a0i [nth 0 r_3.2.1,nth 1 r_3.2.1],r_3.2.2))) fun x => a1a x (some (a0i [nth 0 r_1.2.1,nth 1 r_1.2.1],r_1.2.2)))
theorem c7V (t0 : D) (h : Hp) : R b0r [t0] h = c0W t0 h :=
 er d0b (by kernel_rfl) (by kernel_rfl)
noncomputable def b2j (t0 t1 t12 : D) (ds : List D) (h_1 : Hp) : Option Out :=
 (a0k tab .lss ty3 (nth 2 ds) t12).bind fun t14 =>
 dIf t14
  ((a0b tab a1c t0 (nth 2 ds)).bind fun t18 =>
 (a0c tab h_1 a0w t18).bind fun t19 =>
 (a0b tab a1c t1 (nth 2 ds)).bind fun t22 =>
 (a0c tab h_1 a0w t22).bind fun t23 =>
 (a0k tab .neq a0w t19 t23).bind fun t24 =>
 dIf t24
  (some (.ret,[.bool false,nth 2 ds,nth 2 ds,t14,t24],h_1))
  ((a0k tab .add ty3 (nth 2 ds) (.int .i64 1)).bind fun t25 =>
 some (.nrm,[nth 0 ds,nth 2 ds,t25,t14,t24],h_1)))
  (some ((.ext 0),[nth 0 ds,nth 1 ds,nth 2 ds,t14,nth 4 ds],h_1))
noncomputable def c3v (t0 t1 : D) (h : Hp) : Option (D × Hp) :=
 (a0y tab a1c t0).bind fun t7 =>
 (a0y tab a1c t1).bind fun t9 =>
 (a0k tab .neq ty3 t7 t9).bind fun t10 =>
 dIf t10
  (some (a0i [.bool false],h))
  ((a0y tab a1c t0).bind fun t12 =>
 ((a0I (b2j t0 t1 t12) [.bool false,.any,.int .i64 0,.any,.any] h).bind fun r =>
 some ((a0L 0 r.1),[nth 0 r.2.1,nth 1 r.2.1,nth 2 r.2.1,nth 3 r.2.1,nth 4 r.2.1],r.2.2)).bind fun r_1 =>
 a0Q r_1.1 (some (a0i [.bool true],r_1.2.2)) fun x => a1a x (some (a0i [nth 0 r_1.2.1],r_1.2.2)))
theorem c7W (t0 t1 : D) (h : Hp) : R b5Q [t0,t1] h = c3v t0 t1 h :=
 er d0c (by kernel_rfl) (by kernel_rfl)
noncomputable def c3w (t0 t1 : D) (h : Hp) : Option (D × Hp) :=
 (R b5U [t0,t1] h).bind fun p7 =>
 (a0k tab .geq ty3 p7.1 (.int .i64 0)).bind fun t8 =>
 some (a0i [t8],p7.2)
theorem c7X (t0 t1 : D) (h : Hp) : R b5R [t0,t1] h = c3w t0 t1 h :=
 er d0d (by kernel_rfl) (by kernel_rfl)
noncomputable def c3x (t0 : D) (h : Hp) : Option (D × Hp) :=
 (a2p t0).bind fun t1 =>
 (a0a tab a0w 1 t1).bind fun t3 =>
 (a0c tab h ty9 t3).bind fun t4 =>
 (a0y tab ty9 t4).bind fun t5 =>
 (a0k tab .gtr ty3 t5 (.int .i64 2000)).bind fun t6 =>
 some (a0i [t6],h)
theorem c7Y (t0 : D) (h : Hp) : R b0s [t0] h = c3x t0 h :=
 er d0e (by kernel_rfl) (by kernel_rfl)
noncomputable def a5s (t0 t1 t7 : D) (ds : List D) (h_1 : Hp) : Option Out :=
 (a0k tab .lss ty3 (nth 2 ds) t7).bind fun t9 =>
 dIf t9
  ((a0b tab a1u t0 (nth 2 ds)).bind fun t14 =>
 (a0c tab h_1 a1A t14).bind fun t15 =>
 (a4m R t1 [t15] h_1).bind fun p16 =>
 dIf p16.1
  (some (.ret,[nth 2 ds,nth 2 ds,nth 2 ds,t9,p16.1],p16.2))
  ((a0k tab .add ty3 (nth 2 ds) (.int .i64 1)).bind fun t18 =>
 some (.nrm,[nth 0 ds,nth 2 ds,t18,t9,p16.1],p16.2)))
  (some ((.ext 0),[nth 0 ds,nth 1 ds,nth 2 ds,t9,nth 4 ds],h_1))
noncomputable def c2Y (t0 t1 : D) (h : Hp) : Option (D × Hp) :=
 (a0y tab a1u t0).bind fun t7 =>
 ((a0I (a5s t0 t1 t7) [.int .i64 0,.any,.int .i64 0,.any,.any] h).bind fun r =>
 some ((a0L 0 r.1),[nth 0 r.2.1,nth 1 r.2.1,nth 2 r.2.1,nth 3 r.2.1,nth 4 r.2.1],r.2.2)).bind fun r_1 =>
 a0Q r_1.1 (some (a0i [.int .i64 (-1)],r_1.2.2)) fun x => a1a x (some (a0i [nth 0 r_1.2.1],r_1.2.2))
theorem c7t (t0 t1 : D) (h : Hp) : R b5C [t0,t1] h = c2Y t0 t1 h :=
 er d0f (by kernel_rfl) (by kernel_rfl)
noncomputable def c3c (t0 : D) (h : Hp) : Option (D × Hp) :=
 (a0k tab .geq ty3 t0 (.int .i64 1)).bind fun t4 =>
 (gd t4 true (some t0)).bind fun t6 =>
 (gd t4 true (a0k tab .leq ty3 t6 (.int .i64 5040))).bind fun t7 =>
 (a0M t4 t7 (.bool false)).bind fun t8 =>
 (gd t8 true (some t0)).bind fun t10 =>
 (gd t8 true (a0k tab .rem ty3 (.int .i64 5040) t10)).bind fun t11 =>
 (gd t8 true (a0k tab .eql ty3 t11 (.int .i64 0))).bind fun t12 =>
 (a0M t8 t12 (.bool false)).bind fun t13 =>
 some (a0i [t13],h)
theorem c7y (t0 : D) (h : Hp) : R b5F [t0] h = c3c t0 h :=
 er d0g (by kernel_rfl) (by kernel_rfl)
noncomputable def a8C (t0 : D) (ds : List D) (h_1 : Hp) : Option Out :=
 (a0y tab a1c t0).bind fun t13 =>
 (a0k tab .lss ty3 (nth 2 ds) t13).bind fun t14 =>
 dIf t14
  ((a0b tab a1c t0 (nth 2 ds)).bind fun t19 =>
 (a0a tab a0w 0 t19).bind fun t20 =>
 (a0c tab h_1 ty9 t20).bind fun t21 =>
 (R b5G [t21] h_1).bind fun p22 =>
 (dUn .not p22.1).bind fun t23 =>
 dIf t23
  (some (.ret,[.nils,.int .i64 6,nth 2 ds,t14,t23],p22.2))
  ((a0k tab .add ty3 (nth 2 ds) (.int .i64 1)).bind fun t16 =>
 some (.nrm,[nth 0 ds,nth 1 ds,t16,t14,t23],p22.2)))
  (some ((.ext 0),[nth 0 ds,nth 1 ds,nth 2 ds,t14,nth 4 ds],h_1))
noncomputable def a8D (t0 : D) (ds_1 : List D) (t5m : D) (ds_2 : List D) (h_3 : Hp) : Option Out :=
 (a0k tab .gtr ty3 (nth 0 ds_2) (.int .i64 0)).bind fun t40 =>
 (gd t40 true (some (t5m : D))).bind fun t42 =>
 (gd t40 true (some (nth 0 ds_2))).bind fun t43 =>
 (gd t40 true (a0k tab .sub ty3 t43 (.int .i64 1))).bind fun t44 =>
 (gd t40 true (a0b tab a1c t42 t44)).bind fun t45 =>
 (gd t40 true (a0a tab a0w 0 t45)).bind fun t46 =>
 (gd t40 true (a0c tab h_3 ty9 t46)).bind fun t47 =>
 (gd t40 true (some t0)).bind fun t48 =>
 (gd t40 true (some (nth 3 ds_1))).bind fun t49 =>
 (gd t40 true (a0b tab a1c t48 t49)).bind fun t50 =>
 (gd t40 true (a0a tab a0w 0 t50)).bind fun t51 =>
 (gd t40 true (a0c tab h_3 ty9 t51)).bind fun t52 =>
 (gd t40 true (a0k tab .gtr ty9 t47 t52)).bind fun t53 =>
 (a0M t40 t53 (.bool false)).bind fun t54 =>
 dIf t54
  ((a0k tab .sub ty3 (nth 0 ds_2) (.int .i64 1)).bind fun t59 =>
 (a0b tab a1c t5m t59).bind fun t60 =>
 (a0c tab h_3 a0w t60).bind fun t61 =>
 (a0b tab a1c t5m (nth 0 ds_2)).bind fun t62 =>
 ((a0h tab h_3 a0w t62 t61).bind fun h' => some ((.und : D),h')).bind fun p908 =>
 (a0k tab .sub ty3 (nth 0 ds_2) (.int .i64 1)).bind fun t64 =>
 some (.nrm,[t64,t54],p908.2))
  (some ((.ext 4),[nth 0 ds_2,t54],h_3))
noncomputable def b2c (t0 : D) (ds_1 : List D) (h_2 : Hp) : Option Out :=
 (a0y tab a1c t0).bind fun t26 =>
 (a0k tab .lss ty3 (nth 3 ds_1) t26).bind fun t27 =>
 dIf t27
  ((a0y tab a1c (nth 2 ds_1)).bind fun t31 =>
 (a0b tab a1c t0 (nth 3 ds_1)).bind fun t35 =>
 (a0c tab h_2 a0w t35).bind fun t36 =>
 (a1h tab a1c 1 [0] [t36]).bind fun t37 =>
 (a0C tab h_2 a1c a1c (nth 2 ds_1) t37).bind fun p38 =>
 ((a0I (a8D t0 ds_1 p38.1) [t31,nth 6 ds_1] p38.2).bind fun r_3 =>
 some ((a0L 4 r_3.1),[nth 0 r_3.2.1,nth 1 r_3.2.1],r_3.2.2)).bind fun r_4 =>
 a0Q r_4.1 ((a0b tab a1c t0 (nth 3 ds_1)).bind fun t69 =>
 (a0c tab r_4.2.2 a0w t69).bind fun t70 =>
 (a0b tab a1c p38.1 (nth 0 r_4.2.1)).bind fun t71 =>
 ((a0h tab r_4.2.2 a0w t71 t70).bind fun h' => some ((.und : D),h')).bind fun p907 =>
 (a0k tab .gtr ty3 (nth 0 r_4.2.1) (.int .i64 0)).bind fun t73 =>
 (gd t73 true (some p38.1)).bind fun t75 =>
 (gd t73 true (some (nth 0 r_4.2.1))).bind fun t76 =>
 (gd t73 true (a0k tab .sub ty3 t76 (.int .i64 1))).bind fun t77 =>
 (gd t73 true (a0b tab a1c t75 t77)).bind fun t78 =>
 (gd t73 true (a0a tab a0w 0 t78)).bind fun t79 =>
 (gd t73 true (a0c tab p907.2 ty9 t79)).bind fun t80 =>
 (gd t73 true (some t0)).bind fun t81 =>
 (gd t73 true (some (nth 3 ds_1))).bind fun t82 =>
 (gd t73 true (a0b tab a1c t81 t82)).bind fun t83 =>
 (gd t73 true (a0a tab a0w 0 t83)).bind fun t84 =>
 (gd t73 true (a0c tab p907.2 ty9 t84)).bind fun t85 =>
 (gd t73 true (a0k tab .eql ty9 t80 t85)).bind fun t86 =>
 (a0M t73 t86 (.bool false)).bind fun t87 =>
 dIf t87
  (some (.ret,[.nils,.int .i64 7,p38.1,nth 3 ds_1,nth 0 r_4.2.1,t27,nth 1 r_4.2.1,t87],p907.2))
  ((a0k tab .add ty3 (nth 3 ds_1) (.int .i64 1)).bind fun t29 =>
 some (.nrm,[nth 0 ds_1,nth 1 ds_1,p38.1,t29,nth 0 r_4.2.1,t27,nth 1 r_4.2.1,t87],p907.2))) fun x_1 => a0Q (a0L 3 x_1) ((a0k tab .add ty3 (nth 3 ds_1) (.int .i64 1)).bind fun t29_1 =>
 some (.nrm,[nth 0 ds_1,nth 1 ds_1,p38.1,t29_1,nth 0 r_4.2.1,t27,nth 1 r_4.2.1,nth 7 ds_1],r_4.2.2)) fun x_2 => some (x_2,[nth 0 ds_1,nth 1 ds_1,p38.1,nth 3 ds_1,nth 0 r_4.2.1,t27,nth 1 r_4.2.1,nth 7 ds_1],r_4.2.2))
  (some ((.ext 2),[nth 0 ds_1,nth 1 ds_1,nth 2 ds_1,nth 3 ds_1,nth 4 ds_1,t27,nth 6 ds_1,nth 7 ds_1],h_2))
noncomputable def c0T (t0 : D) (h : Hp) : Option (D × Hp) :=
 (a0y tab a1c t0).bind fun t9 =>
 (a0k tab .gtr ty3 t9 (.int .i64 32)).bind fun t10 =>
 dIf t10
  (scope h h (a0i [.nils,.int .i64 4]))
  (((a0I (a8C t0) [.nils,.int .i64 0,.int .i64 0,.any,.any] h).bind fun r =>
 some ((a0L 0 r.1),[nth 0 r.2.1,nth 1 r.2.1,nth 2 r.2.1,nth 3 r.2.1,nth 4 r.2.1],r.2.2)).bind fun r_1 =>
 a0Q r_1.1 (((a0I (b2c t0) [nth 0 r_1.2.1,nth 1 r_1.2.1,.nils,.int .i64 0,.any,.any,.any,.any] r_1.2.2).bind fun r_2 =>
 some ((a0L 2 r_2.1),[nth 0 r_2.2.1,nth 1 r_2.2.1,nth 2 r_2.2.1,nth 3 r_2.2.1,nth 4 r_2.2.1,nth 5 r_2.2.1,nth 6 r_2.2.1,nth 7 r_2.2.1],r_2.2.2)).bind fun r_5 =>
 a0Q r_5.1 (scope h r_5.2.2 (a0i [nth 2 r_5.2.1,.int .i64 0])) fun x_3 => a1a x_3 (scope h r_5.2.2 (a0i [nth 0 r_5.2.1,nth 1 r_5.2.1]))) fun x => a1a x (scope h r_1.2.2 (a0i [nth 0 r_1.2.1,nth 1 r_1.2.1])))
theorem c7z (t0 : D) (h : Hp) : R b2X [t0] h = c0T t0 h :=
 er d0h (by kernel_rfl) (by kernel_rfl)
noncomputable def d2k (t0 : D) (h : Hp) : Option (D × Hp) :=
 (a1h tab a5r 14 [0,1,2,3,4,5,6,7,8,9,10,11,12,13] [.str [103,101,116],.str [101,114,114,111,114],.str [119,97,114,110],.str [97,49],.str [117,115,101,114,95,55],.str [120],.str [84,105,109,101,111,117,116],.str [50,48,48],.str [71,69,84],.str [101,114,114,111],.str [122],.str [],.str [255],.str [97,46,98]]).bind fun t4 =>
 (a0y tab a5r t4).bind fun t8 =>
 (R a5q [t0,t8] h).bind fun p9 =>
 (a0b tab a5r t4 p9.1).bind fun t10 =>
 (a0c tab p9.2 ty9 t10).bind fun t11 =>
 some (a0i [t11],p9.2)
theorem d2J (t0 : D) (h : Hp) : R b9g [t0] h = d2k t0 h :=
 er d0i (by kernel_rfl) (by kernel_rfl)
noncomputable def F33 (t0 : D) (h : Hp) : Option (D × Hp) :=
 (a1h tab a5r 11 [0,1,2,3,4,5,6,7,8,9,10] [.str [119,97,114,110],.str [105,110,102,111],.str [55],.str [45,51],.str [51,49],.str [],.str [120,32,121],.str [57,57,57,57,57,57,57,57,57,57,57,57,57,57,57,57,57,57],.str [49,48,48,48,48,48,48,48,48,48,48,48,48,48,48,48,48,48,48],.str [48,55],.str [45]]).bind fun t4 =>
 (a0y tab a5r t4).bind fun t8 =>
 (R a5q [t0,t8] h).bind fun p9 =>
 (a0b tab a5r t4 p9.1).bind fun t10 =>
 (a0c tab p9.2 ty9 t10).bind fun t11 =>
 some (a0i [t11],p9.2)
theorem e33 (t0 : D) (h : Hp) : R c9N [t0] h = F33 t0 h :=
 er d0j (by kernel_rfl) (by kernel_rfl)
noncomputable def a4N (p24 : D × Hp) (t25 : D) (ds : List D) (h_1 : Hp) : Option Out :=
 (a0k tab .lss ty3 (nth 2 ds) t25).bind fun t27 =>
 dIf t27
  ((a0b tab a0H p24.1 (nth 2 ds)).bind fun t28 =>
 (a0c tab h_1 ty5 t28).bind fun t29 =>
 (R b5W [t29] h_1).bind fun p31 =>
 (dUn .not p31.1).bind fun t32 =>
 (gd t32 true (some t29)).bind fun t34 =>
 (gd t32 true (a0k tab .neq ty5 t34 (.int .u8 46))).bind fun t35 =>
 (a0M t32 t35 (.bool false)).bind fun t36 =>
 dIf t36
  (some (.ret,[.bool false,t29,nth 2 ds,t27,t36],p31.2))
  ((a0k tab .add ty3 (nth 2 ds) (.int .i64 1)).bind fun t37 =>
 some (.nrm,[nth 0 ds,t29,t37,t27,t36],p31.2)))
  (some ((.ext 0),[nth 0 ds,nth 1 ds,nth 2 ds,t27,nth 4 ds],h_1))
noncomputable def b3X (t0 : D) (h : Hp) : Option (D × Hp) :=
 (a0k tab .eql ty9 t0 (.str [])).bind fun t6 =>
 (gd t6 false (some t0)).bind fun t8 =>
 (gd t6 false (a0y tab ty9 t8)).bind fun t9 =>
 (gd t6 false (a0k tab .gtr ty3 t9 (.int .i64 32))).bind fun t10 =>
 (a0M t6 (.bool true) t10).bind fun t11 =>
 (gd t11 false (some t0)).bind fun t13 =>
 (gd t11 false (a4e tab ty9 t13 (.int .i64 0))).bind fun t14 =>
 (gdW t11 false h (R b5V [t14] h)).bind fun p15 =>
 (gd t11 false (dUn .not p15.1)).bind fun t16 =>
 (gd t11 false (some t16)).bind fun t17 =>
 (gd t17 true (some t0)).bind fun t18 =>
 (gd t17 true (a4e tab ty9 t18 (.int .i64 0))).bind fun t19 =>
 (gd t17 true (a0k tab .neq ty5 t19 (.int .u8 95))).bind fun t20 =>
 (gd t11 false (a0M t17 t20 (.bool false))).bind fun t21 =>
 (a0M t11 (.bool true) t21).bind fun t22 =>
 dIf t22
  (scope h p15.2 (a0i [.bool false]))
  ((c0Q ty5 p15.2 t0).bind fun p24 =>
 (a0y tab a0H p24.1).bind fun t25 =>
 ((a0I (a4N p24 t25) [.bool false,.any,.int .i64 0,.any,.any] p24.2).bind fun r =>
 some ((a0L 0 r.1),[nth 0 r.2.1,nth 1 r.2.1,nth 2 r.2.1,nth 3 r.2.1,nth 4 r.2.1],r.2.2)).bind fun r_1 =>
 a0Q r_1.1 (scope h r_1.2.2 (a0i [.bool true])) fun x => a1a x (scope h r_1.2.2 (a0i [nth 0 r_1.2.1])))
theorem c7Z (t0 : D) (h : Hp) : R b5S [t0] h = b3X t0 h :=
 er d0k (by kernel_rfl) (by kernel_rfl)
noncomputable def c0X (t0 t1 : D) (h : Hp) : Option (D × Hp) :=
 (a0y tab a1c t0).bind fun t6 =>
 (R b3c [t0,t6,t1] h).bind fun p8 =>
 some (a0i [],p8.2)
theorem c4K (t0 t1 : D) (h : Hp) : R b0t [t0,t1] h = c0X t0 t1 h :=
 er d0l (by kernel_rfl) (by kernel_rfl)
noncomputable def c3y (t0 t1 : D) (h : Hp) : Option (D × Hp) :=
 (a2p t0).bind fun t2 =>
 (a2p t1).bind fun t3 =>
 (a0a tab a0w 0 t2).bind fun t5 =>
 (a0c tab h ty9 t5).bind fun t6 =>
 (a0a tab a0w 0 t3).bind fun t7 =>
 (a0c tab h ty9 t7).bind fun t8 =>
 (R b5T [t6,t8] h).bind fun p9 =>
 some (a0i [p9.1],p9.2)
theorem c8a (t0 t1 : D) (h : Hp) : R a7t [t0,t1] h = c3y t0 t1 h :=
 er d0m (by kernel_rfl) (by kernel_rfl)
noncomputable def c3z (t0 t1 : D) (h : Hp) : Option (D × Hp) :=
 (R c0h [t0,t1] h).bind fun p7 =>
 some (a0i [p7.1],p7.2)
theorem c8b (t0 t1 : D) (h : Hp) : R b5T [t0,t1] h = c3z t0 t1 h :=
 er d0n (by kernel_rfl) (by kernel_rfl)
noncomputable def a5t (t0 t1 t7 : D) (ds : List D) (h_1 : Hp) : Option Out :=
 (a0k tab .lss ty3 (nth 2 ds) t7).bind fun t9 =>
 dIf t9
  ((a0b tab a1c t0 (nth 2 ds)).bind fun t14 =>
 (a0c tab h_1 a0w t14).bind fun t15 =>
 (a4m R t1 [t15] h_1).bind fun p16 =>
 dIf p16.1
  (some (.ret,[nth 2 ds,nth 2 ds,nth 2 ds,t9,p16.1],p16.2))
  ((a0k tab .add ty3 (nth 2 ds) (.int .i64 1)).bind fun t18 =>
 some (.nrm,[nth 0 ds,nth 2 ds,t18,t9,p16.1],p16.2)))
  (some ((.ext 0),[nth 0 ds,nth 1 ds,nth 2 ds,t9,nth 4 ds],h_1))
noncomputable def c3A (t0 t1 : D) (h : Hp) : Option (D × Hp) :=
 (a0y tab a1c t0).bind fun t7 =>
 ((a0I (a5t t0 t1 t7) [.int .i64 0,.any,.int .i64 0,.any,.any] h).bind fun r =>
 some ((a0L 0 r.1),[nth 0 r.2.1,nth 1 r.2.1,nth 2 r.2.1,nth 3 r.2.1,nth 4 r.2.1],r.2.2)).bind fun r_1 =>
 a0Q r_1.1 (some (a0i [.int .i64 (-1)],r_1.2.2)) fun x => a1a x (some (a0i [nth 0 r_1.2.1],r_1.2.2))
theorem c8c (t0 t1 : D) (h : Hp) : R b5U [t0,t1] h = c3A t0 t1 h :=
 er d0o (by kernel_rfl) (by kernel_rfl)
noncomputable def a4M (t0 : D) (ds : List D) (h_1 : Hp) : Option Out :=
 (a0y tab ty9 t0).bind fun t25 =>
 (a0k tab .lss ty3 (nth 1 ds) t25).bind fun t26 =>
 dIf t26
  ((a4e tab ty9 t0 (nth 1 ds)).bind fun t31 =>
 (R b5H [t31] h_1).bind fun p32 =>
 (dUn .not p32.1).bind fun t33 =>
 (gd t33 true (some t0)).bind fun t35 =>
 (gd t33 true (some (nth 1 ds))).bind fun t36 =>
 (gd t33 true (a4e tab ty9 t35 t36)).bind fun t37 =>
 (gd t33 true (a0k tab .neq ty5 t37 (.int .u8 46))).bind fun t38 =>
 (a0M t33 t38 (.bool false)).bind fun t39 =>
 dIf t39
  (some (.ret,[.bool false,nth 1 ds,t26,t39],p32.2))
  ((a0k tab .add ty3 (nth 1 ds) (.int .i64 1)).bind fun t28 =>
 some (.nrm,[nth 0 ds,t28,t26,t39],p32.2)))
  (some ((.ext 0),[nth 0 ds,nth 1 ds,t26,nth 3 ds],h_1))
noncomputable def b3V (t0 : D) (h : Hp) : Option (D × Hp) :=
 (a0y tab ty9 t0).bind fun t5 =>
 (a0k tab .lss ty3 t5 (.int .i64 1)).bind fun t6 =>
 (gd t6 false (some t0)).bind fun t8 =>
 (gd t6 false (a0y tab ty9 t8)).bind fun t9 =>
 (gd t6 false (a0k tab .gtr ty3 t9 (.int .i64 32))).bind fun t10 =>
 (a0M t6 (.bool true) t10).bind fun t11 =>
 (gd t11 false (some t0)).bind fun t13 =>
 (gd t11 false (a4e tab ty9 t13 (.int .i64 0))).bind fun t14 =>
 (gdW t11 false h (R b2Y [t14] h)).bind fun p15 =>
 (gd t11 false (dUn .not p15.1)).bind fun t16 =>
 (gd t11 false (some t16)).bind fun t17 =>
 (gd t17 true (some t0)).bind fun t18 =>
 (gd t17 true (a4e tab ty9 t18 (.int .i64 0))).bind fun t19 =>
 (gd t17 true (a0k tab .neq ty5 t19 (.int .u8 95))).bind fun t20 =>
 (gd t11 false (a0M t17 t20 (.bool false))).bind fun t21 =>
 (a0M t11 (.bool true) t21).bind fun t22 =>
 dIf t22
  (some (a0i [.bool false],p15.2))
  (((a0I (a4M t0) [.bool false,.int .i64 0,.any,.any] p15.2).bind fun r =>
 some ((a0L 0 r.1),[nth 0 r.2.1,nth 1 r.2.1,nth 2 r.2.1,nth 3 r.2.1],r.2.2)).bind fun r_1 =>
 a0Q r_1.1 (some (a0i [.bool true],r_1.2.2)) fun x => a1a x (some (a0i [nth 0 r_1.2.1],r_1.2.2)))
theorem c7A (t0 : D) (h : Hp) : R b5G [t0] h = b3V t0 h :=
 er d0p (by kernel_rfl) (by kernel_rfl)
noncomputable def c3B (t0 : D) (h : Hp) : Option (D × Hp) :=
 (a0b tab b3T (.fptr kin) t0).bind fun t4 =>
 (a0c tab h ty5 t4).bind fun t5 =>
 (a0k tab .and ty5 t5 (.int .u8 2)).bind fun t6 =>
 (a0k tab .neq ty5 t6 (.int .u8 0)).bind fun t7 =>
 some (a0i [t7],h)
theorem c8d (t0 : D) (h : Hp) : R b5V [t0] h = c3B t0 h :=
 er d0q (by kernel_rfl) (by kernel_rfl)
noncomputable def c3C (t0 : D) (h : Hp) : Option (D × Hp) :=
 (a0b tab b3T (.fptr kin) t0).bind fun t4 =>
 (a0c tab h ty5 t4).bind fun t5 =>
 (a0k tab .and ty5 t5 (.int .u8 3)).bind fun t6 =>
 (a0k tab .neq ty5 t6 (.int .u8 0)).bind fun t7 =>
 (gd t7 false (some t0)).bind fun t9 =>
 (gd t7 false (a0k tab .eql ty5 t9 (.int .u8 95))).bind fun t10 =>
 (a0M t7 (.bool true) t10).bind fun t11 =>
 some (a0i [t11],h)
theorem c8e (t0 : D) (h : Hp) : R b5W [t0] h = c3C t0 h :=
 er d0r (by kernel_rfl) (by kernel_rfl)
noncomputable def a8I (t0 t1 t2 t6m : D) (ds : List D) (h_1 : Hp) : Option Out :=
 (a0k tab .leq ty3 (nth 1 ds) t1).bind fun t13 =>
 dIf t13
  ((R a7u [t0,nth 0 ds,nth 1 ds,t2] h_1).bind fun p18 =>
 (a0k tab .add ty3 (nth 1 ds) t6m).bind fun t22 =>
 some (.nrm,[nth 1 ds,t22,t13],p18.2))
  (some ((.ext 0),[nth 0 ds,nth 1 ds,t13],h_1))
noncomputable def b2k (t0 t1 t2 : D) (ds_1 : List D) (ds_2 : List D) (h_3 : Hp) : Option Out :=
 (a0k tab .leq ty3 (nth 1 ds_2) t1).bind fun t35 =>
 dIf t35
  ((a0k tab .add ty3 (nth 0 ds_2) (nth 0 ds_1)).bind fun t40 =>
 (R a6x [t0,nth 0 ds_2,t40,nth 1 ds_2,t2] h_3).bind fun p43 =>
 (a0k tab .mul ty3 (.int .i64 2) (nth 0 ds_1)).bind fun t47 =>
 (a0k tab .add ty3 (nth 1 ds_2) t47).bind fun t48 =>
 some (.nrm,[nth 1 ds_2,t48,t35],p43.2))
  (some ((.ext 4),[nth 0 ds_2,nth 1 ds_2,t35],h_3))
noncomputable def a8J (t0 t1 t2 : D) (ds_1 : List D) (h_2 : Hp) : Option Out :=
 (a0k tab .lss ty3 (nth 0 ds_1) t1).bind fun t30 =>
 dIf t30
  ((a0k tab .mul ty3 (.int .i64 2) (nth 0 ds_1)).bind fun t32 =>
 ((a0I (b2k t0 t1 t2 ds_1) [.int .i64 0,t32,nth 5 ds_1] h_2).bind fun r_3 =>
 some ((a0L 4 r_3.1),[nth 0 r_3.2.1,nth 1 r_3.2.1,nth 2 r_3.2.1],r_3.2.2)).bind fun r_4 =>
 a0Q r_4.1 ((a0k tab .add ty3 (nth 0 r_4.2.1) (nth 0 ds_1)).bind fun t51 =>
 (a0k tab .lss ty3 t51 t1).bind fun t54 =>
 (dIf t54
  ((R a6x [t0,nth 0 r_4.2.1,t51,t1,t2] r_4.2.2).bind fun p60 =>
 some (.nrm,([] : List D),p60.2))
  (some (.nrm,([] : List D),r_4.2.2))).bind fun r_5 =>
 a0Q r_5.1 ((a0k tab .mul ty3 (nth 0 ds_1) (.int .i64 2)).bind fun t62 =>
 some (.nrm,[t62,nth 0 r_4.2.1,nth 1 r_4.2.1,t51,t30,nth 2 r_4.2.1,t54],r_5.2.2)) fun x_2 => some ((a0L 3 x_2),[nth 0 ds_1,nth 0 r_4.2.1,nth 1 r_4.2.1,t51,t30,nth 2 r_4.2.1,t54],r_5.2.2)) fun x_1 => some ((a0L 3 x_1),[nth 0 ds_1,nth 0 r_4.2.1,nth 1 r_4.2.1,nth 3 ds_1,t30,nth 2 r_4.2.1,nth 6 ds_1],r_4.2.2))
  (some ((.ext 2),[nth 0 ds_1,nth 1 ds_1,nth 2 ds_1,nth 3 ds_1,t30,nth 5 ds_1,nth 6 ds_1],h_2))
noncomputable def c0Y (t0 t1 t2 : D) (h : Hp) : Option (D × Hp) :=
 ((a0I (a8I t0 t1 t2 (.int .i64 20)) [.int .i64 0,.int .i64 20,.any] h).bind fun r =>
 some ((a0L 0 r.1),[nth 0 r.2.1,nth 1 r.2.1,nth 2 r.2.1],r.2.2)).bind fun r_1 =>
 a0Q r_1.1 ((R a7u [t0,nth 0 r_1.2.1,t1,t2] r_1.2.2).bind fun p27 =>
 ((a0I (a8J t0 t1 t2) [.int .i64 20,nth 0 r_1.2.1,nth 1 r_1.2.1,.any,.any,.any,.any] p27.2).bind fun r_2 =>
 some ((a0L 2 r_2.1),[nth 0 r_2.2.1,nth 1 r_2.2.1,nth 2 r_2.2.1,nth 3 r_2.2.1,nth 4 r_2.2.1,nth 5 r_2.2.1,nth 6 r_2.2.1],r_2.2.2)).bind fun r_6 =>
 a1a r_6.1 (some (a0i [],r_6.2.2))) fun x => a1a x (some (a0i [],r_1.2.2))
theorem c4L (t0 t1 t2 : D) (h : Hp) : R b3c [t0,t1,t2] h = c0Y t0 t1 t2 h :=
 er d0s (by kernel_rfl) (by kernel_rfl)
noncomputable def c3D (t0 t1 : D) (h : Hp) : Option (D × Hp) :=
 (R b5X [t0,t1] h).bind fun p7 =>
 some (a0i [p7.1],p7.2)
theorem c8f (t0 t1 : D) (h : Hp) : R c0h [t0,t1] h = c3D t0 t1 h :=
 er d0t (by kernel_rfl) (by kernel_rfl)
noncomputable def c3d (t0 : D) (h : Hp) : Option (D × Hp) :=
 (a0k tab .geq ty5 t0 (.int .u8 97)).bind fun t4 =>
 (gd t4 true (some t0)).bind fun t6 =>
 (gd t4 true (a0k tab .leq ty5 t6 (.int .u8 122))).bind fun t7 =>
 (a0M t4 t7 (.bool false)).bind fun t8 =>
 (gd t8 false (some t0)).bind fun t10 =>
 (gd t8 false (a0k tab .geq ty5 t10 (.int .u8 65))).bind fun t11 =>
 (gd t8 false (some t11)).bind fun t12 =>
 (gd t12 true (some t0)).bind fun t13 =>
 (gd t12 true (a0k tab .leq ty5 t13 (.int .u8 90))).bind fun t14 =>
 (gd t8 false (a0M t12 t14 (.bool false))).bind fun t15 =>
 (a0M t8 (.bool true) t15).bind fun t16 =>
 some (a0i [t16],h)
theorem c7B (t0 : D) (h : Hp) : R b2Y [t0] h = c3d t0 h :=
 er d0u (by kernel_rfl) (by kernel_rfl)
noncomputable def c3e (t0 : D) (h : Hp) : Option (D × Hp) :=
 (R b5I [t0] h).bind fun p4 =>
 (gd p4.1 false (some t0)).bind fun t6 =>
 (gdW p4.1 false p4.2 (R b2Y [t6] p4.2)).bind fun p7 =>
 (a0M p4.1 (.bool true) p7.1).bind fun t8 =>
 (gd t8 false (some t0)).bind fun t10 =>
 (gd t8 false (a0k tab .eql ty5 t10 (.int .u8 95))).bind fun t11 =>
 (a0M t8 (.bool true) t11).bind fun t12 =>
 some (a0i [t12],p7.2)
theorem c7C (t0 : D) (h : Hp) : R b5H [t0] h = c3e t0 h :=
 er d0v (by kernel_rfl) (by kernel_rfl)
noncomputable def a8L (t0 t1 t3 : D) (ds_1 : List D) (h_2 : Hp) : Option Out :=
 (a0k tab .gtr ty3 (nth 0 ds_1) t1).bind fun t20 =>
 (gd t20 true (some t3)).bind fun t22 =>
 (gd t20 true (some t0)).bind fun t23 =>
 (gd t20 true (some (nth 0 ds_1))).bind fun t24 =>
 (gd t20 true (a0b tab a1c t23 t24)).bind fun t25 =>
 (gd t20 true (a0c tab h_2 a0w t25)).bind fun t26 =>
 (gd t20 true (some t0)).bind fun t27 =>
 (gd t20 true (some (nth 0 ds_1))).bind fun t28 =>
 (gd t20 true (a0k tab .sub ty3 t28 (.int .i64 1))).bind fun t29 =>
 (gd t20 true (a0b tab a1c t27 t29)).bind fun t30 =>
 (gd t20 true (a0c tab h_2 a0w t30)).bind fun t31 =>
 (gdW t20 true h_2 (a4m R t22 [t26,t31] h_2)).bind fun p32 =>
 (gd t20 true (a0k tab .lss ty3 p32.1 (.int .i64 0))).bind fun t33 =>
 (a0M t20 t33 (.bool false)).bind fun t34 =>
 dIf t34
  ((a0k tab .sub ty3 (nth 0 ds_1) (.int .i64 1)).bind fun t41 =>
 (a0k tab .sub ty3 (nth 0 ds_1) (.int .i64 1)).bind fun t44 =>
 (a0b tab a1c t0 t44).bind fun t45 =>
 (a0c tab p32.2 a0w t45).bind fun t46 =>
 (a0b tab a1c t0 (nth 0 ds_1)).bind fun t49 =>
 (a0c tab p32.2 a0w t49).bind fun t50 =>
 (a0b tab a1c t0 (nth 0 ds_1)).bind fun t51 =>
 ((a0h tab p32.2 a0w t51 t46).bind fun h' => some ((.und : D),h')).bind fun p915 =>
 (a0b tab a1c t0 t41).bind fun t52 =>
 ((a0h tab p915.2 a0w t52 t50).bind fun h' => some ((.und : D),h')).bind fun p917 =>
 (a0k tab .sub ty3 (nth 0 ds_1) (.int .i64 1)).bind fun t36 =>
 some (.nrm,[t36,t34],p917.2))
  (some ((.ext 2),[nth 0 ds_1,t34],p32.2))
noncomputable def a8K (t0 t1 t2 t3 : D) (ds : List D) (h_1 : Hp) : Option Out :=
 (a0k tab .lss ty3 (nth 0 ds) t2).bind fun t14 =>
 dIf t14
  (((a0I (a8L t0 t1 t3) [nth 0 ds,nth 3 ds] h_1).bind fun r_1 =>
 some ((a0L 2 r_1.1),[nth 0 r_1.2.1,nth 1 r_1.2.1],r_1.2.2)).bind fun r_2 =>
 a0Q (a0L 1 r_2.1) ((a0k tab .add ty3 (nth 0 ds) (.int .i64 1)).bind fun t16 =>
 some (.nrm,[t16,nth 0 r_2.2.1,t14,nth 1 r_2.2.1],r_2.2.2)) fun x => some (x,[nth 0 ds,nth 0 r_2.2.1,t14,nth 1 r_2.2.1],r_2.2.2))
  (some ((.ext 0),[nth 0 ds,nth 1 ds,t14,nth 3 ds],h_1))
noncomputable def c0Z (t0 t1 t2 t3 : D) (h : Hp) : Option (D × Hp) :=
 (a0k tab .add ty3 t1 (.int .i64 1)).bind fun t11 =>
 ((a0I (a8K t0 t1 t2 t3) [t11,.any,.any,.any] h).bind fun r =>
 some ((a0L 0 r.1),[nth 0 r.2.1,nth 1 r.2.1,nth 2 r.2.1,nth 3 r.2.1],r.2.2)).bind fun r_3 =>
 a1a r_3.1 (some (a0i [],r_3.2.2))
theorem c4M (t0 t1 t2 t3 : D) (h : Hp) : R a7u [t0,t1,t2,t3] h = c0Z t0 t1 t2 t3 h :=
 er d0w (by kernel_rfl) (by kernel_rfl)
noncomputable def a6H (a0 a4 t22m : D) (ds : List D) (h_3 : Hp) : Option Out :=
 (a0k tab .lss ty3 (nth 0 ds) (nth 1 ds)).bind fun t151 =>
 dIf t151
  ((a0k tab .add ty3 (nth 0 ds) (nth 1 ds)).bind fun t154 =>
 (a0Z tab ty3 a5m t154).bind fun t155 =>
 (a0k tab .shr a5m t155 (.int .u64 1)).bind fun t156 =>
 (a0Z tab a5m ty3 t156).bind fun t157 =>
 (a0k tab .sub ty3 t22m t157).bind fun t162 =>
 (a0b tab a1c a0 t162).bind fun t163 =>
 (a0c tab h_3 a0w t163).bind fun t164 =>
 (a0b tab a1c a0 t157).bind fun t167 =>
 (a0c tab h_3 a0w t167).bind fun t168 =>
 (a4m R a4 [t164,t168] h_3).bind fun p169 =>
 (a0k tab .lss ty3 p169.1 (.int .i64 0)).bind fun t170 =>
 (dUn .not t170).bind fun t171 =>
 (dIf t171
  ((a0k tab .add ty3 t157 (.int .i64 1)).bind fun t173 =>
 some (.nrm,[t173,nth 1 ds],p169.2))
  (some (.nrm,[nth 0 ds,t157],p169.2))).bind fun r_2 =>
 some ((a0L 9 r_2.1),[nth 0 r_2.2.1,nth 1 r_2.2.1,t157,t151,t171],r_2.2.2))
  (some ((.ext 8),[nth 0 ds,nth 1 ds,nth 2 ds,t151,nth 4 ds],h_3))
noncomputable def a5v (a0 a1 a2 a3 a4 : D) (h_2 : Hp) : Option (D × Hp) :=
  (a0k tab .add ty3 a1 a3).bind fun t131 =>
 (a0Z tab ty3 a5m t131).bind fun t132 =>
 (a0k tab .shr a5m t132 (.int .u64 1)).bind fun t133 =>
 (a0Z tab a5m ty3 t133).bind fun t134 =>
 (a0k tab .add ty3 t134 a2).bind fun t137 =>
 (a0k tab .gtr ty3 a2 t134).bind fun t140 =>
 (dIf t140
  ((a0k tab .sub ty3 t137 a3).bind fun t143 =>
 some (.nrm,[t143,t134],h_2))
  (some (.nrm,[a1,a2],h_2))).bind fun r =>
 a0Q r.1 ((a0k tab .sub ty3 t137 (.int .i64 1)).bind fun t148 =>
 ((a0I (a6H a0 a4 t148) [nth 0 r.2.1,nth 1 r.2.1,.any,.any,.any] r.2.2).bind fun r_1 =>
 some ((a0L 8 r_1.1),[nth 0 r_1.2.1,nth 1 r_1.2.1,nth 2 r_1.2.1,nth 3 r_1.2.1,nth 4 r_1.2.1],r_1.2.2)).bind fun r_3 =>
 a0Q r_3.1 ((a0k tab .sub ty3 t137 (nth 0 r_3.2.1)).bind fun t177 =>
 (a0k tab .lss ty3 (nth 0 r_3.2.1) a2).bind fun t180 =>
 (gd t180 true (some a2)).bind fun t182 =>
 (gd t180 true (some t177)).bind fun t183 =>
 (gd t180 true (a0k tab .lss ty3 t182 t183)).bind fun t184 =>
 (a0M t180 t184 (.bool false)).bind fun t185 =>
 (dIf t185
  ((R b5Y [a0,nth 0 r_3.2.1,a2,t177,a4] r_3.2.2).bind fun p191 =>
 some (.nrm,([] : List D),p191.2))
  (some (.nrm,([] : List D),r_3.2.2))).bind fun r_4 =>
 a0Q r_4.1 ((a0k tab .lss ty3 a1 (nth 0 r_3.2.1)).bind fun t194 =>
 (gd t194 true (some (nth 0 r_3.2.1))).bind fun t196 =>
 (gd t194 true (some t134)).bind fun t197 =>
 (gd t194 true (a0k tab .lss ty3 t196 t197)).bind fun t198 =>
 (a0M t194 t198 (.bool false)).bind fun t199 =>
 (dIf t199
  ((R a6x [a0,a1,nth 0 r_3.2.1,t134,a4] r_4.2.2).bind fun p205 =>
 some (.nrm,([] : List D),p205.2))
  (some (.nrm,([] : List D),r_4.2.2))).bind fun r_5 =>
 a0Q r_5.1 ((a0k tab .lss ty3 t134 t177).bind fun t208 =>
 (gd t208 true (some t177)).bind fun t210 =>
 (gd t208 true (some a3)).bind fun t211 =>
 (gd t208 true (a0k tab .lss ty3 t210 t211)).bind fun t212 =>
 (a0M t208 t212 (.bool false)).bind fun t213 =>
 (dIf t213
  ((R a6x [a0,t134,t177,a3,a4] r_5.2.2).bind fun p219 =>
 some (.nrm,([] : List D),p219.2))
  (some (.nrm,([] : List D),r_5.2.2))).bind fun r_6 =>
 a1a r_6.1 (some (a0i [],r_6.2.2))) fun x_3 => a1a x_3 (some (a0i [],r_5.2.2))) fun x_2 => a1a x_2 (some (a0i [],r_4.2.2))) fun x_1 => a1a x_1 (some (a0i [],r_3.2.2))) fun x => a1a x (some (a0i [],r.2.2))
noncomputable def a8M (a0 a2 a4 : D) (ds_1 : List D) (h_4 : Hp) : Option Out :=
 (a0k tab .lss ty3 (nth 0 ds_1) (nth 1 ds_1)).bind fun t85 =>
 dIf t85
  ((a0k tab .add ty3 (nth 0 ds_1) (nth 1 ds_1)).bind fun t88 =>
 (a0Z tab ty3 a5m t88).bind fun t89 =>
 (a0k tab .shr a5m t89 (.int .u64 1)).bind fun t90 =>
 (a0Z tab a5m ty3 t90).bind fun t91 =>
 (a0b tab a1c a0 a2).bind fun t95 =>
 (a0c tab h_4 a0w t95).bind fun t96 =>
 (a0b tab a1c a0 t91).bind fun t99 =>
 (a0c tab h_4 a0w t99).bind fun t100 =>
 (a4m R a4 [t96,t100] h_4).bind fun p101 =>
 (a0k tab .lss ty3 p101.1 (.int .i64 0)).bind fun t102 =>
 (dUn .not t102).bind fun t103 =>
 (dIf t103
  ((a0k tab .add ty3 t91 (.int .i64 1)).bind fun t105 =>
 some (.nrm,[t105,nth 1 ds_1],p101.2))
  (some (.nrm,[nth 0 ds_1,t91],p101.2))).bind fun r_8 =>
 some ((a0L 5 r_8.1),[nth 0 r_8.2.1,nth 1 r_8.2.1,t91,t85,t103],r_8.2.2))
  (some ((.ext 4),[nth 0 ds_1,nth 1 ds_1,nth 2 ds_1,t85,nth 4 ds_1],h_4))
noncomputable def a8N (a0 : D) (r_9 : Out) (ds_2 : List D) (h_5 : Hp) : Option Out :=
 (a0k tab .gtr ty3 (nth 0 ds_2) (nth 0 r_9.2.1)).bind fun t110 =>
 dIf t110
  ((a0k tab .sub ty3 (nth 0 ds_2) (.int .i64 1)).bind fun t117 =>
 (a0k tab .sub ty3 (nth 0 ds_2) (.int .i64 1)).bind fun t120 =>
 (a0b tab a1c a0 t120).bind fun t121 =>
 (a0c tab h_5 a0w t121).bind fun t122 =>
 (a0b tab a1c a0 (nth 0 ds_2)).bind fun t125 =>
 (a0c tab h_5 a0w t125).bind fun t126 =>
 (a0b tab a1c a0 (nth 0 ds_2)).bind fun t127 =>
 ((a0h tab h_5 a0w t127 t122).bind fun h' => some ((.und : D),h')).bind fun p915 =>
 (a0b tab a1c a0 t117).bind fun t128 =>
 ((a0h tab p915.2 a0w t128 t126).bind fun h' => some ((.und : D),h')).bind fun p917 =>
 (a0k tab .sub ty3 (nth 0 ds_2) (.int .i64 1)).bind fun t112 =>
 some (.nrm,[t112,t110],p917.2))
  (some ((.ext 6),[nth 0 ds_2,t110],h_5))
noncomputable def a5u (a0 a1 a2 a3 a4 : D) (h_1 : Hp) : Option (D × Hp) :=
  (a0k tab .sub ty3 a3 a2).bind fun t79 =>
 (a0k tab .eql ty3 t79 (.int .i64 1)).bind fun t80 =>
 dIf t80
  (((a0I (a8M a0 a2 a4) [a1,a2,.any,.any,.any] h_1).bind fun r_7 =>
 some ((a0L 4 r_7.1),[nth 0 r_7.2.1,nth 1 r_7.2.1,nth 2 r_7.2.1,nth 3 r_7.2.1,nth 4 r_7.2.1],r_7.2.2)).bind fun r_9 =>
 a0Q r_9.1 (((a0I (a8N a0 r_9) [a2,.any] r_9.2.2).bind fun r_10 =>
 some ((a0L 6 r_10.1),[nth 0 r_10.2.1,nth 1 r_10.2.1],r_10.2.2)).bind fun r_11 =>
 a0Q r_11.1 (some (a0i [],r_11.2.2)) fun x_5 => a0Q x_5 (a5v a0 a1 a2 a3 a4 r_11.2.2) fun x_6 => a1a x_6 (some (a0i [],r_11.2.2))) fun x_4 => a0Q x_4 (a5v a0 a1 a2 a3 a4 r_9.2.2) fun x_7 => a1a x_7 (some (a0i [],r_9.2.2)))
  (a5v a0 a1 a2 a3 a4 h_1)
noncomputable def a8O (t0 t1 t4 : D) (ds_3 : List D) (h_6 : Hp) : Option Out :=
 (a0k tab .lss ty3 (nth 0 ds_3) (nth 1 ds_3)).bind fun t33 =>
 dIf t33
  ((a0k tab .add ty3 (nth 0 ds_3) (nth 1 ds_3)).bind fun t36 =>
 (a0Z tab ty3 a5m t36).bind fun t37 =>
 (a0k tab .shr a5m t37 (.int .u64 1)).bind fun t38 =>
 (a0Z tab a5m ty3 t38).bind fun t39 =>
 (a0b tab a1c t0 t39).bind fun t43 =>
 (a0c tab h_6 a0w t43).bind fun t44 =>
 (a0b tab a1c t0 t1).bind fun t47 =>
 (a0c tab h_6 a0w t47).bind fun t48 =>
 (a4m R t4 [t44,t48] h_6).bind fun p49 =>
 (a0k tab .lss ty3 p49.1 (.int .i64 0)).bind fun t50 =>
 (dIf t50
  ((a0k tab .add ty3 t39 (.int .i64 1)).bind fun t52 =>
 some (.nrm,[t52,nth 1 ds_3],p49.2))
  (some (.nrm,[nth 0 ds_3,t39],p49.2))).bind fun r_13 =>
 some ((a0L 1 r_13.1),[nth 0 r_13.2.1,nth 1 r_13.2.1,t39,t33,t50],r_13.2.2))
  (some ((.ext 0),[nth 0 ds_3,nth 1 ds_3,nth 2 ds_3,t33,nth 4 ds_3],h_6))
noncomputable def a8P (t0 : D) (r_14 : Out) (ds_4 : List D) (h_7 : Hp) : Option Out :=
 (a0k tab .sub ty3 (nth 0 r_14.2.1) (.int .i64 1)).bind fun t57 =>
 (a0k tab .lss ty3 (nth 0 ds_4) t57).bind fun t58 =>
 dIf t58
  ((a0k tab .add ty3 (nth 0 ds_4) (.int .i64 1)).bind fun t65 =>
 (a0k tab .add ty3 (nth 0 ds_4) (.int .i64 1)).bind fun t68 =>
 (a0b tab a1c t0 t68).bind fun t69 =>
 (a0c tab h_7 a0w t69).bind fun t70 =>
 (a0b tab a1c t0 (nth 0 ds_4)).bind fun t73 =>
 (a0c tab h_7 a0w t73).bind fun t74 =>
 (a0b tab a1c t0 (nth 0 ds_4)).bind fun t75 =>
 ((a0h tab h_7 a0w t75 t70).bind fun h' => some ((.und : D),h')).bind fun p915_1 =>
 (a0b tab a1c t0 t65).bind fun t76 =>
 ((a0h tab p915_1.2 a0w t76 t74).bind fun h' => some ((.und : D),h')).bind fun p917_1 =>
 (a0k tab .add ty3 (nth 0 ds_4) (.int .i64 1)).bind fun t60 =>
 some (.nrm,[t60,t58],p917_1.2))
  (some ((.ext 2),[nth 0 ds_4,t58],h_7))
noncomputable def b8t (t0 t1 t2 t3 t4 : D) (h : Hp) : Option (D × Hp) :=
 (a0k tab .sub ty3 t2 t1).bind fun t27 =>
 (a0k tab .eql ty3 t27 (.int .i64 1)).bind fun t28 =>
 dIf t28
  (((a0I (a8O t0 t1 t4) [t2,t3,.any,.any,.any] h).bind fun r_12 =>
 some ((a0L 0 r_12.1),[nth 0 r_12.2.1,nth 1 r_12.2.1,nth 2 r_12.2.1,nth 3 r_12.2.1,nth 4 r_12.2.1],r_12.2.2)).bind fun r_14 =>
 a0Q r_14.1 (((a0I (a8P t0 r_14) [t1,.any] r_14.2.2).bind fun r_15 =>
 some ((a0L 2 r_15.1),[nth 0 r_15.2.1,nth 1 r_15.2.1],r_15.2.2)).bind fun r_16 =>
 a0Q r_16.1 (some (a0i [],r_16.2.2)) fun x_9 => a0Q x_9 (a5u t0 t1 t2 t3 t4 r_16.2.2) fun x_10 => a1a x_10 (some (a0i [],r_16.2.2))) fun x_8 => a0Q x_8 (a5u t0 t1 t2 t3 t4 r_14.2.2) fun x_11 => a1a x_11 (some (a0i [],r_14.2.2)))
  (a5u t0 t1 t2 t3 t4 h)
theorem c1x (t0 t1 t2 t3 t4 : D) (h : Hp) : R a6x [t0,t1,t2,t3,t4] h = b8t t0 t1 t2 t3 t4 h :=
 er d0x (by kernel_rfl) (by kernel_rfl)
noncomputable def c3f (t0 : D) (h : Hp) : Option (D × Hp) :=
 (a0k tab .geq ty5 t0 (.int .u8 48)).bind fun t4 =>
 (gd t4 true (some t0)).bind fun t6 =>
 (gd t4 true (a0k tab .leq ty5 t6 (.int .u8 57))).bind fun t7 =>
 (a0M t4 t7 (.bool false)).bind fun t8 =>
 some (a0i [t8],h)
theorem c7D (t0 : D) (h : Hp) : R b5I [t0] h = c3f t0 h :=
 er d0y (by kernel_rfl) (by kernel_rfl)
noncomputable def b2l (t0 t2 t4 : D) (ds : List D) (h_1 : Hp) : Option Out :=
 (a0k tab .neq ty3 (nth 0 ds) (nth 1 ds)).bind fun t20 =>
 dIf t20
  ((a0k tab .gtr ty3 (nth 0 ds) (nth 1 ds)).bind fun t23 =>
 (dIf t23
  ((a0k tab .sub ty3 t2 (nth 0 ds)).bind fun t27 =>
 (R b0u [t0,t27,t2,nth 1 ds,t4] h_1).bind fun p31 =>
 (a0k tab .sub ty3 (nth 0 ds) (nth 1 ds)).bind fun t34 =>
 some (.nrm,[t34,nth 1 ds],p31.2))
  ((a0k tab .sub ty3 t2 (nth 0 ds)).bind fun t38 =>
 (a0k tab .add ty3 t2 (nth 1 ds)).bind fun t41 =>
 (a0k tab .sub ty3 t41 (nth 0 ds)).bind fun t43 =>
 (R b0u [t0,t38,t43,nth 0 ds,t4] h_1).bind fun p46 =>
 (a0k tab .sub ty3 (nth 1 ds) (nth 0 ds)).bind fun t49 =>
 some (.nrm,[nth 0 ds,t49],p46.2))).bind fun r_1 =>
 some ((a0L 1 r_1.1),[nth 0 r_1.2.1,nth 1 r_1.2.1,t20,t23],r_1.2.2))
  (some ((.ext 0),[nth 0 ds,nth 1 ds,t20,nth 3 ds],h_1))
noncomputable def c3E (t0 t1 t2 t3 t4 : D) (h : Hp) : Option (D × Hp) :=
 (a0k tab .sub ty3 t2 t1).bind fun t14 =>
 (a0k tab .sub ty3 t3 t2).bind fun t17 =>
 ((a0I (b2l t0 t2 t4) [t14,t17,.any,.any] h).bind fun r =>
 some ((a0L 0 r.1),[nth 0 r.2.1,nth 1 r.2.1,nth 2 r.2.1,nth 3 r.2.1],r.2.2)).bind fun r_2 =>
 a0Q r_2.1 ((a0k tab .sub ty3 t2 (nth 0 r_2.2.1)).bind fun t53 =>
 (R b0u [t0,t53,t2,nth 0 r_2.2.1,t4] r_2.2.2).bind fun p57 =>
 some (a0i [],p57.2)) fun x => a1a x (some (a0i [],r_2.2.2))
theorem c8g (t0 t1 t2 t3 t4 : D) (h : Hp) : R b5Y [t0,t1,t2,t3,t4] h = c3E t0 t1 t2 t3 t4 h :=
 er d0z (by kernel_rfl) (by kernel_rfl)
noncomputable def b2m (t0 t1 t2 t3 : D) (ds : List D) (h_1 : Hp) : Option Out :=
 (a0k tab .lss ty3 (nth 0 ds) t3).bind fun t13 =>
 dIf t13
  ((a0k tab .add ty3 t1 (nth 0 ds)).bind fun t19 =>
 (a0k tab .add ty3 t2 (nth 0 ds)).bind fun t23 =>
 (a0k tab .add ty3 t2 (nth 0 ds)).bind fun t27 =>
 (a0b tab a1c t0 t27).bind fun t28 =>
 (a0c tab h_1 a0w t28).bind fun t29 =>
 (a0k tab .add ty3 t1 (nth 0 ds)).bind fun t33 =>
 (a0b tab a1c t0 t33).bind fun t34 =>
 (a0c tab h_1 a0w t34).bind fun t35 =>
 (a0b tab a1c t0 t19).bind fun t36 =>
 ((a0h tab h_1 a0w t36 t29).bind fun h' => some ((.und : D),h')).bind fun p921 =>
 (a0b tab a1c t0 t23).bind fun t37 =>
 ((a0h tab p921.2 a0w t37 t35).bind fun h' => some ((.und : D),h')).bind fun p923 =>
 (a0k tab .add ty3 (nth 0 ds) (.int .i64 1)).bind fun t15 =>
 some (.nrm,[t15,t13],p923.2))
  (some ((.ext 0),[nth 0 ds,t13],h_1))
noncomputable def c3F (t0 t1 t2 t3 t4 : D) (h : Hp) : Option (D × Hp) :=
 ((a0I (b2m t0 t1 t2 t3) [.int .i64 0,.any] h).bind fun r =>
 some ((a0L 0 r.1),[nth 0 r.2.1,nth 1 r.2.1],r.2.2)).bind fun r_1 =>
 a1a r_1.1 (some (a0i [],r_1.2.2))
theorem c8h (t0 t1 t2 t3 t4 : D) (h : Hp) : R b0u [t0,t1,t2,t3,t4] h = c3F t0 t1 t2 t3 t4 h :=
 er d0A (by kernel_rfl) (by kernel_rfl)
noncomputable def c4d (t0 t1 : D) (h : Hp) : Option (D × Hp) :=
 (a0s tab t0).bind fun t7 =>
 (a0a tab a2j 0 t7).bind fun t8 =>
 (a0c tab h a0H t8).bind fun t9 =>
 (a0Z tab ty3 a0J t1).bind fun t11 =>
 (R a4h [t9,t11,.int .i64 4] h).bind fun p12 =>
 (a0s tab t0).bind fun t13 =>
 (a0a tab a2j 0 t13).bind fun t14 =>
 ((a0h tab p12.2 a0H t14 p12.1).bind fun h' => some ((.und : D),h')).bind fun p910 =>
 some (a0i [t1],p910.2)
theorem c8I (t0 t1 : D) (h : Hp) : R b6c [t0,t1] h = c4d t0 t1 h :=
 er d0B (by kernel_rfl) (by kernel_rfl)
noncomputable def c4e (t0 t1 : D) (h : Hp) : Option (D × Hp) :=
 (a0s tab t0).bind fun t6 =>
 (a0a tab a2j 0 t6).bind fun t7 =>
 (a0c tab h a0H t7).bind fun t8 =>
 (a0s tab t1).bind fun t10 =>
 (a0c tab h ty3 t10).bind fun t11 =>
 (a0Z tab ty3 a0J t11).bind fun t12 =>
 (R a4h [t8,t12,.int .i64 8] h).bind fun p13 =>
 (a0s tab t0).bind fun t14 =>
 (a0a tab a2j 0 t14).bind fun t15 =>
 ((a0h tab p13.2 a0H t15 p13.1).bind fun h' => some ((.und : D),h')).bind fun p912 =>
 some (a0i [],p912.2)
theorem c8J (t0 t1 : D) (h : Hp) : R b6d [t0,t1] h = c4e t0 t1 h :=
 er d0C (by kernel_rfl) (by kernel_rfl)
noncomputable def c4f (t0 t1 : D) (h : Hp) : Option (D × Hp) :=
 (a0s tab t0).bind fun t6 =>
 (a0a tab a2j 0 t6).bind fun t7 =>
 (a0c tab h a0H t7).bind fun t8 =>
 (a0s tab t1).bind fun t10 =>
 (a0c tab h ty9 t10).bind fun t11 =>
 (a0y tab ty9 t11).bind fun t12 =>
 (a0Z tab ty3 a0J t12).bind fun t13 =>
 (R a4h [t8,t13,.int .i64 4] h).bind fun p14 =>
 (a0s tab t1).bind fun t16 =>
 (a0c tab p14.2 ty9 t16).bind fun t17 =>
 (a0C tab p14.2 a0H ty9 p14.1 t17).bind fun p18 =>
 (a0s tab t0).bind fun t19 =>
 (a0a tab a2j 0 t19).bind fun t20 =>
 ((a0h tab p18.2 a0H t20 p18.1).bind fun h' => some ((.und : D),h')).bind fun p917 =>
 chk (a0c tab h ty9 t16 = some t17)
 (some (a0i [],p917.2))
theorem c8K (t0 t1 : D) (h : Hp) : R b6e [t0,t1] h = c4f t0 t1 h :=
 er d0D (by kernel_rfl) (by kernel_rfl)
noncomputable def c4g (t0 t1 : D) (h : Hp) : Option (D × Hp) :=
 (R a5R [t0,.int .i64 4] h).bind fun p7 =>
 (R a6z [p7.1] p7.2).bind fun p8 =>
 (a0Z tab a0J ty3 p8.1).bind fun t9 =>
 (a0s tab t0).bind fun t11 =>
 (a0a tab a1M 1 t11).bind fun t12 =>
 (a0c tab p8.2 ty4 t12).bind fun t13 =>
 (gd t13 false (some t9)).bind fun t15 =>
 (gd t13 false (some t0)).bind fun t16 =>
 (gd t13 false (a0s tab t16)).bind fun t17 =>
 (gd t13 false (a0a tab a1M 0 t17)).bind fun t18 =>
 (gd t13 false (a0c tab p8.2 a0H t18)).bind fun t19 =>
 (gd t13 false (a0y tab a0H t19)).bind fun t20 =>
 (gd t13 false (a0k tab .quo ty3 t20 (.int .i64 8))).bind fun t21 =>
 (gd t13 false (a0k tab .gtr ty3 t15 t21)).bind fun t22 =>
 (a0M t13 (.bool true) t22).bind fun t23 =>
 dIf t23
  ((a0s tab t0).bind fun t25 =>
 (a0a tab a1M 1 t25).bind fun t26 =>
 ((a0h tab p8.2 ty4 t26 (.bool true)).bind fun h' => some ((.und : D),h')).bind fun p903 =>
 some (a0i [.int .i64 0],p903.2))
  (some (a0i [t9],p8.2))
theorem c8L (t0 t1 : D) (h : Hp) : R b3l [t0,t1] h = c4g t0 t1 h :=
 er d0E (by kernel_rfl) (by kernel_rfl)
noncomputable def c4h (t0 t1 : D) (h : Hp) : Option (D × Hp) :=
 (R a5R [t0,.int .i64 8] h).bind fun p6 =>
 (R a6z [p6.1] p6.2).bind fun p7 =>
 (a0Z tab a0J ty3 p7.1).bind fun t8 =>
 (a0s tab t1).bind fun t9 =>
 ((a0h tab p7.2 ty3 t9 t8).bind fun h' => some ((.und : D),h')).bind fun p906 =>
 some (a0i [],p906.2)
theorem c8M (t0 t1 : D) (h : Hp) : R b3m [t0,t1] h = c4h t0 t1 h :=
 er d0F (by kernel_rfl) (by kernel_rfl)
noncomputable def c4i (t0 t1 : D) (h : Hp) : Option (D × Hp) :=
 (R a5R [t0,.int .i64 4] h).bind fun p7 =>
 (R a6z [p7.1] p7.2).bind fun p8 =>
 (a0Z tab a0J ty3 p8.1).bind fun t9 =>
 (R a5R [t0,t9] p8.2).bind fun p12 =>
 (a0s tab t0).bind fun t14 =>
 (a0a tab a1M 1 t14).bind fun t15 =>
 (a0c tab p12.2 ty4 t15).bind fun t16 =>
 (dUn .not t16).bind fun t17 =>
 (dIf t17
  ((a6v p12.2 p12.1).bind fun t20 =>
 (a0s tab t1).bind fun t21 =>
 ((a0h tab p12.2 ty9 t21 t20).bind fun h' => some ((.und : D),h')).bind fun p904 =>
 some (.nrm,([] : List D),p904.2))
  (some (.nrm,([] : List D),p12.2))).bind fun r =>
 a1a r.1 (some (a0i [],r.2.2))
theorem c8N (t0 t1 : D) (h : Hp) : R b3n [t0,t1] h = c4i t0 t1 h :=
 er d0G (by kernel_rfl) (by kernel_rfl)
noncomputable def c4j (t0 t1 : D) (h : Hp) : Option (D × Hp) :=
 (a0s tab t0).bind fun t7 =>
 (a0a tab a1M 1 t7).bind fun t8 =>
 (a0c tab h ty4 t8).bind fun t9 =>
 (gd t9 false (some t1)).bind fun t11 =>
 (gd t9 false (a0k tab .lss ty3 t11 (.int .i64 0))).bind fun t12 =>
 (a0M t9 (.bool true) t12).bind fun t13 =>
 (gd t13 false (some t1)).bind fun t15 =>
 (gd t13 false (some t0)).bind fun t16 =>
 (gd t13 false (a0s tab t16)).bind fun t17 =>
 (gd t13 false (a0a tab a1M 0 t17)).bind fun t18 =>
 (gd t13 false (a0c tab h a0H t18)).bind fun t19 =>
 (gd t13 false (a0y tab a0H t19)).bind fun t20 =>
 (gd t13 false (a0k tab .gtr ty3 t15 t20)).bind fun t21 =>
 (a0M t13 (.bool true) t21).bind fun t22 =>
 dIf t22
  ((a0s tab t0).bind fun t24 =>
 (a0a tab a1M 1 t24).bind fun t25 =>
 ((a0h tab h ty4 t25 (.bool true)).bind fun h' => some ((.und : D),h')).bind fun p903 =>
 some (a0i [.nils],p903.2))
  ((a0s tab t0).bind fun t27 =>
 (a0a tab a1M 0 t27).bind fun t28 =>
 (a0c tab h a0H t28).bind fun t29 =>
 (a0G tab a0H false true false [t29,t1]).bind fun t31 =>
 (a0s tab t0).bind fun t34 =>
 (a0a tab a1M 0 t34).bind fun t35 =>
 (a0c tab h a0H t35).bind fun t36 =>
 (a0G tab a0H true false false [t36,t1]).bind fun t38 =>
 (a0s tab t0).bind fun t39 =>
 (a0a tab a1M 0 t39).bind fun t40 =>
 ((a0h tab h a0H t40 t38).bind fun h' => some ((.und : D),h')).bind fun p909 =>
 some (a0i [t31],p909.2))
theorem c8O (t0 t1 : D) (h : Hp) : R a5R [t0,t1] h = c4j t0 t1 h :=
 er d0H (by kernel_rfl) (by kernel_rfl)
end Go.Proofs.YthaajlepgblimaaGreatDoor
