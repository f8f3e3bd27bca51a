/- Functions as Lean functions on data. -/
import Derived.Test.YtehgglgadbmecaaGreatDoorB1
set_option linter.unusedSimpArgs false
set_option linter.unusedVariables false
set_option linter.unnecessarySimpa false
set_option maxRecDepth 100000
namespace Go.Proofs.YtehgglgadbmecaaGreatDoor
open Go.Eng Go.Pi
noncomputable def b8W (h:Hp):Option (D × Hp) :=
 (a0A tab a0V 1 [0] [.int .i64 1]).bind fun t2=>(a0P tab a0k [1] [t2]).bind fun t3=>(a0A tab a0E 1 [0] [.str [98]]).bind fun t4=>(a0A tab a0V 1 [0] [.int .i64 2]).bind fun t5=>(a0P tab a0k [0,1] [t4,t5]).bind fun t6=>(a0A tab a0t 2 [0,1] [t3,t6]).bind fun t7=>(R a5K [t7,.int .i64 1] h).bind fun p8=>(a0w tab a0t p8.1).bind fun t10=>(a0j tab .eql ty3 t10 (.int .i64 1)).bind fun t11=>(gd t11 true (some p8.1)).bind fun t13=>(gd t11 true (a0a tab a0t t13 (.int .i64 0))).bind fun t14=>(gd t11 true (a0b tab a0k 1 t14)).bind fun t15=>(gd t11 true (a0c tab p8.2 a0V t15)).bind fun t16=>(gd t11 true (a0w tab a0V t16)).bind fun t17=>(gd t11 true (a0j tab .eql ty3 t17 (.int .i64 1))).bind fun t18=>(a1g t11 t18 (.bool false)).bind fun t19=>(gd t19 true (some p8.1)).bind fun t21=>(gd t19 true (a0a tab a0t t21 (.int .i64 0))).bind fun t22=>(gd t19 true (a0b tab a0k 1 t22)).bind fun t23=>(gd t19 true (a0c tab p8.2 a0V t23)).bind fun t24=>(gd t19 true (a0a tab a0V t24 (.int .i64 0))).bind fun t25=>(gd t19 true (a0c tab p8.2 ty3 t25)).bind fun t26=>(gd t19 true (a0j tab .eql ty3 t26 (.int .i64 2))).bind fun t27=>(a1g t19 t27 (.bool false)).bind fun t28=>some (a0i [t28],p8.2)
theorem c2C (h:Hp):R a5H [] h=b8W h :=
 er i5 (by kernel_rfl) (by kernel_rfl)
noncomputable def b8X (t0:D) (h:Hp):Option (D × Hp) :=
 (R c3H [t0,.int .i64 500] h).bind fun p8=>(R a9X [p8.1] p8.2).bind fun p10=>(R c1I [p8.1,.int .i64 7] p10.2).bind fun p12=>(R a3S [p8.1,.int .i64 5] p12.2).bind fun p14=>(a0j tab .add ty3 (.int .i64 1) p14.1).bind fun t15=>some (a0i [p10.1,p12.1,t15,p8.1],p14.2)
theorem c2D (t0:D) (h:Hp):R a5I [t0] h=b8X t0 h :=
 er i6 (by kernel_rfl) (by kernel_rfl)
noncomputable def b8Y (t0 t1:D) (h:Hp):Option (D × Hp) :=
 (a0P tab a3x [] []).bind fun t6=>(a0A tab a4v 1 [0] [t6]).bind fun t7=>(R a9Z [t0,t7,t1] h).bind fun p12=>(R a9Y [t7,p12.1] p12.2).bind fun p13=>some (a0i [p13.1],p13.2)
theorem c2E (t0 t1:D) (h:Hp):R a7L [t0,t1] h=b8Y t0 t1 h :=
 er i7 (by kernel_rfl) (by kernel_rfl)
noncomputable def a9e (t0 t1:D) (ds:List D) (h_1:Hp):Option Out :=
 (a0w tab a0t t0).bind fun t13=>(a0j tab .lss ty3 (nth 1 ds) t13).bind fun t14=>dIf t14
  ((a0a tab a0t t0 (nth 1 ds)).bind fun t19=>(a0b tab a0k 0 t19).bind fun t20=>(a0c tab h_1 a0E t20).bind fun t21=>(a0a tab a0t t1 (nth 1 ds)).bind fun t24=>(a0b tab a0k 0 t24).bind fun t25=>(a0c tab h_1 a0E t25).bind fun t26=>(R b0a [t21,t26] h_1).bind fun p27=>(dUn .not p27.1).bind fun t28=>(gd t28 false (some t0)).bind fun t30=>(gd t28 false (some (nth 1 ds))).bind fun t31=>(gd t28 false (a0a tab a0t t30 t31)).bind fun t32=>(gd t28 false (a0b tab a0k 1 t32)).bind fun t33=>(gd t28 false (a0c tab p27.2 a0V t33)).bind fun t34=>(gd t28 false (some t1)).bind fun t35=>(gd t28 false (some (nth 1 ds))).bind fun t36=>(gd t28 false (a0a tab a0t t35 t36)).bind fun t37=>(gd t28 false (a0b tab a0k 1 t37)).bind fun t38=>(gd t28 false (a0c tab p27.2 a0V t38)).bind fun t39=>(gdW t28 false p27.2 (R b2o [t34,t39] p27.2)).bind fun p40=>(gd t28 false (dUn .not p40.1)).bind fun t41=>(a1g t28 (.bool true) t41).bind fun t42=>(gd t42 false (some t0)).bind fun t44=>(gd t42 false (some (nth 1 ds))).bind fun t45=>(gd t42 false (a0a tab a0t t44 t45)).bind fun t46=>(gd t42 false (a0b tab a0k 2 t46)).bind fun t47=>(gd t42 false (a0c tab p40.2 ty3 t47)).bind fun t48=>(gd t42 false (some t1)).bind fun t49=>(gd t42 false (some (nth 1 ds))).bind fun t50=>(gd t42 false (a0a tab a0t t49 t50)).bind fun t51=>(gd t42 false (a0b tab a0k 2 t51)).bind fun t52=>(gd t42 false (a0c tab p40.2 ty3 t52)).bind fun t53=>(gd t42 false (a0j tab .neq ty3 t48 t53)).bind fun t54=>(a1g t42 (.bool true) t54).bind fun t55=>dIf t55
  (some (.ret,[.bool false,nth 1 ds,t14,t55],p40.2))
  ((a0j tab .add ty3 (nth 1 ds) (.int .i64 1)).bind fun t16=>some (.nrm,[nth 0 ds,t16,t14,t55],p40.2)))
  (some ((.ext 0),[nth 0 ds,nth 1 ds,t14,nth 3 ds],h_1))
noncomputable def b8Z (t0 t1:D) (h:Hp):Option (D × Hp) :=
 (a0w tab a0t t0).bind fun t7=>(a0w tab a0t t1).bind fun t9=>(a0j tab .neq ty3 t7 t9).bind fun t10=>dIf t10
  (some (a0i [.bool false],h))
  (((a0B (a9e t0 t1) [.bool false,.int .i64 0,.any,.any] h).bind fun r=>some ((a0v 0 r.1),[nth 0 r.2.1,nth 1 r.2.1,nth 2 r.2.1,nth 3 r.2.1],r.2.2)).bind fun r_1=>a0z r_1.1 (some (a0i [.bool true],r_1.2.2)) fun x=>a0H x (some (a0i [nth 0 r_1.2.1],r_1.2.2)))
theorem c2F (t0 t1:D) (h:Hp):R a5J [t0,t1] h=b8Z t0 t1 h :=
 er i8 (by kernel_rfl) (by kernel_rfl)
noncomputable def a9r (p15:D × Hp) (t16:D) (ds:List D) (h_1:Hp):Option Out :=
 (a0j tab .lss ty3 (nth 2 ds) t16).bind fun t18=>dIf t18
  ((a0a tab a0h p15.1 (nth 2 ds)).bind fun t19=>(a0c tab h_1 a0d t19).bind fun t20=>(a7s 3 t20).bind fun t8=>(a0b tab a0d 0 t8).bind fun t22=>(a0c tab h_1 a0E t22).bind fun t23=>(R b0m [t23] h_1).bind fun p24=>(a0b tab a0d 1 t8).bind fun t25=>(a0c tab p24.2 ty3 t25).bind fun t26=>(a0A tab a0V 1 [0] [t26]).bind fun t27=>(a0b tab a0d 2 t8).bind fun t28=>(a0c tab p24.2 ty3 t28).bind fun t29=>(a0P tab a0k [0,1,2] [p24.1,t27,t29]).bind fun t30=>(a0A tab a0t 1 [0] [t30]).bind fun t31=>(a0p tab p24.2 a0t a0t (nth 0 ds) t31).bind fun p32=>chk (a0c tab h_1 ty3 t25=some t26)
 (chk (a0c tab h_1 ty3 t28=some t29)
 ((a0j tab .add ty3 (nth 2 ds) (.int .i64 1)).bind fun t33=>some (.nrm,[p32.1,t8,t33,t18],p32.2))))
  (some ((.ext 0),[nth 0 ds,nth 1 ds,nth 2 ds,t18],h_1))
noncomputable def b9w (t0 t1:D) (h:Hp):Option (D × Hp) :=
 (R a7R [t0] h).bind fun p10=>(R a7S [p10.1,.fn (.func a5N) [] []] p10.2).bind fun p12=>(R b2w [p10.1,t1] p12.2).bind fun p15=>(a0w tab a0h p15.1).bind fun t16=>((a0B (a9r p15 t16) [.nils,.any,.int .i64 0,.any] p15.2).bind fun r=>some ((a0v 0 r.1),[nth 0 r.2.1,nth 1 r.2.1,nth 2 r.2.1,nth 3 r.2.1],r.2.2)).bind fun r_1=>a0z r_1.1 (scope h r_1.2.2 (a0i [nth 0 r_1.2.1])) fun x=>a0H x (scope h r_1.2.2 (a0i [.nils]))
theorem c3e (t0 t1:D) (h:Hp):R a5b [t0,t1] h=b9w t0 t1 h :=
 er i9 (by kernel_rfl) (by kernel_rfl)
noncomputable def b6D (t0 t1:D) (h:Hp):Option (D × Hp) :=
 (R b2p [t0] h).bind fun p7=>(R b0b [p7.1,.fn (.func a7M) [] []] p7.2).bind fun p9=>(R b5Z [p7.1,t1] p9.2).bind fun p12=>scope h p12.2 (a0i [p12.1])
theorem c2G (t0 t1:D) (h:Hp):R a5K [t0,t1] h=b6D t0 t1 h :=
 er i11 (by kernel_rfl) (by kernel_rfl)
noncomputable def a9n (t0 t3:D) (ds:List D) (h_1:Hp):Option Out :=
 (a0w tab a0E t0).bind fun t11=>(a0j tab .lss ty3 (nth 1 ds) t11).bind fun t12=>dIf t12
  ((a0c tab h_1 a0R t3).bind fun t16=>(a0a tab a0E t0 (nth 1 ds)).bind fun t19=>(a0c tab h_1 ty9 t19).bind fun t20=>(R a7N [t16,t20] h_1).bind fun p21=>(a0D 0 p21.1).bind fun t22=>(a0D 1 p21.1).bind fun t23=>(a0A tab a0E 1 [0] [t22]).bind fun t26=>(a0p tab p21.2 a0E a0E (nth 0 ds) t26).bind fun p27=>(a0j tab .add ty3 (nth 1 ds) (.int .i64 1)).bind fun t14=>some (.nrm,[p27.1,t14,t22,t12],p27.2))
  (some ((.ext 0),[nth 0 ds,nth 1 ds,nth 2 ds,t12],h_1))
noncomputable def b9p (t0 t1:D) (h:Hp):Option (D × Hp) :=
 (a1H t1).bind fun t3=>((a0B (a9n t0 t3) [.nils,.int .i64 0,.any,.any] h).bind fun r=>some ((a0v 0 r.1),[nth 0 r.2.1,nth 1 r.2.1,nth 2 r.2.1,nth 3 r.2.1],r.2.2)).bind fun r_1=>a0z r_1.1 (scope h r_1.2.2 (a0i [nth 0 r_1.2.1])) fun x=>a0H x (scope h r_1.2.2 (a0i [.nils]))
theorem c2X (t0 t1:D) (h:Hp):R a5a [t0,t1] h=b9p t0 t1 h :=
 er i12 (by kernel_rfl) (by kernel_rfl)
noncomputable def b9y (t0 t1 t2 t3:D) (h:Hp):Option (D × Hp) :=
 (b8T a0h 1 h t0).bind fun p4=>(a1H t2).bind fun t6=>(a0c tab p4.2 a0h p4.1).bind fun t14=>(R a7R [t14] p4.2).bind fun p15=>((a0s tab p15.2 a0h p4.1 p15.1).bind fun h'=>some ((.und:D),h')).bind fun p902=>(some (.fn (.func b2x) [] [p4.1,t6]:D)).bind fun t16=>(a1V R t16 [] p902.2).bind fun p19=>(a0D 0 p19.1).bind fun t20=>(a0D 1 p19.1).bind fun t21=>dIf t21
  ((a0c tab p19.2 a0h p4.1).bind fun t23=>(a0a tab a0h t23 t20).bind fun t25=>(a0b tab a0d 1 t25).bind fun t26=>(a0c tab p19.2 ty3 t26).bind fun t27=>(a0j tab .add ty3 t27 t3).bind fun t29=>(a0a tab a0h t23 t20).bind fun t30=>(a0b tab a0d 1 t30).bind fun t31=>((a0s tab p19.2 ty3 t31 t29).bind fun h'=>some ((.und:D),h')).bind fun p909=>(a0c tab p909.2 a0h p4.1).bind fun t32=>scope h p909.2 (a0i [t32]))
  ((a0c tab p19.2 a0E t6).bind fun t33=>(R b0m [t33] p19.2).bind fun p34=>(a0P tab a0d [0,1] [p34.1,t3]).bind fun t36=>(some ((.ptr p34.2.length 0 0:D),a0K p34.2 a0d 3 [[.nils,.int .i64 0,.int .i64 0]])).bind fun p12=>((a0s tab p12.2 a0d p12.1 t36).bind fun h'=>some ((.und:D),h')).bind fun p905=>(a0c tab p905.2 a0h p4.1).bind fun t37=>(a0w tab a0h t37).bind fun t38=>(a0j tab .geq ty3 t38 t1).bind fun t40=>(gd t40 true (a0c tab p905.2 a0h p4.1)).bind fun t42=>(gd t40 true (a0w tab a0h t42)).bind fun t43=>(gd t40 true (a0j tab .gtr ty3 t43 (.int .i64 0))).bind fun t44=>(a1g t40 t44 (.bool false)).bind fun t45=>(dIf t45
  ((a0c tab p905.2 a0h p4.1).bind fun t46=>(R b0p [t46,.fn (.func a7U) [] []] p905.2).bind fun p47=>(a7s 3 p47.1).bind fun t13=>(a0b tab a0d 1 t13).bind fun t48=>(a0c tab p47.2 ty3 t48).bind fun t49=>(a0j tab .add ty3 t49 t3).bind fun t51=>(a0b tab a0d 1 t13).bind fun t52=>(a0c tab p47.2 ty3 t52).bind fun t53=>(a0b tab a0d 1 p12.1).bind fun t54=>((a0s tab p47.2 ty3 t54 t51).bind fun h'=>some ((.und:D),h')).bind fun p907=>chk (a0c tab p907.2 ty3 t52=some t53)
 ((a0b tab a0d 2 p12.1).bind fun t55=>((a0s tab p907.2 ty3 t55 t53).bind fun h'=>some ((.und:D),h')).bind fun p909_1=>(a0c tab p909_1.2 a0h p4.1).bind fun t56=>(some (.fn (.func a5d) [] [t13]:D)).bind fun t57=>(R b0q [t56,t57] p909_1.2).bind fun p58=>((a0s tab p58.2 a0h p4.1 p58.1).bind fun h'=>some ((.und:D),h')).bind fun p903=>(a1V R t16 [] p903.2).bind fun p61=>(a0D 0 p61.1).bind fun t62=>(a0D 1 p61.1).bind fun t63=>some (.nrm,[t62,t13],p61.2)))
  (some (.nrm,[t20,.any],p905.2))).bind fun r=>a0z r.1 ((a0c tab r.2.2 a0h p4.1).bind fun t64=>(a0c tab r.2.2 a0d p12.1).bind fun t66=>(a0A tab a0h 1 [0] [t66]).bind fun t67=>(R a5e [t64,nth 0 r.2.1,t67] r.2.2).bind fun p68=>scope h p68.2 (a0i [p68.1])) fun x=>a0H x (scope h r.2.2 (a0i [.nils])))
theorem c3g (t0 t1 t2 t3:D) (h:Hp):R a5c [t0,t1,t2,t3] h=b9y t0 t1 t2 t3 h :=
 er i13 (by kernel_rfl) (by kernel_rfl)
noncomputable def b4e (t2 t3 t9m:D) (ds:List D) (h_1:Hp):Option Out :=
 (a0w tab a0h t9m).bind fun t17=>(a0j tab .lss ty3 (nth 2 ds) t17).bind fun t18=>dIf t18
  ((a0a tab a0h t9m (nth 2 ds)).bind fun t23=>(a0b tab a0d 0 t23).bind fun t24=>(a0c tab h_1 a0E t24).bind fun t25=>(R a5L [t25,t2] h_1).bind fun p27=>(a0j tab .eql ty3 p27.1 (.int .i64 0)).bind fun t28=>dIf t28
  ((a0a tab a0h t9m (nth 2 ds)).bind fun t31=>(a0b tab a0d 1 t31).bind fun t32=>(a0c tab p27.2 ty3 t32).bind fun t33=>(a0j tab .add ty3 t33 t3).bind fun t35=>(a0a tab a0h t9m (nth 2 ds)).bind fun t36=>(a0b tab a0d 1 t36).bind fun t37=>((a0s tab p27.2 ty3 t37 t35).bind fun h'=>some ((.und:D),h')).bind fun p909=>some (.ret,[t9m,nth 1 ds,nth 2 ds,t18,t28,nth 5 ds],p909.2))
  ((a0a tab a0h t9m (nth 2 ds)).bind fun t41=>(a0b tab a0d 1 t41).bind fun t42=>(a0c tab p27.2 ty3 t42).bind fun t43=>(a0a tab a0h t9m (nth 1 ds)).bind fun t46=>(a0b tab a0d 1 t46).bind fun t47=>(a0c tab p27.2 ty3 t47).bind fun t48=>(a0j tab .lss ty3 t43 t48).bind fun t49=>(dIf t49
  (some (.nrm,[nth 2 ds],p27.2))
  (some (.nrm,[nth 1 ds],p27.2))).bind fun r_1=>a0z (a0v 1 r_1.1) ((a0j tab .add ty3 (nth 2 ds) (.int .i64 1)).bind fun t20=>some (.nrm,[nth 0 ds,nth 0 r_1.2.1,t20,t18,t28,t49],r_1.2.2)) fun x=>some (x,[nth 0 ds,nth 0 r_1.2.1,nth 2 ds,t18,t28,t49],r_1.2.2)))
  (some ((.ext 0),[nth 0 ds,nth 1 ds,nth 2 ds,t18,nth 4 ds,nth 5 ds],h_1))
noncomputable def c2b (t0 t1 t2 t3:D) (h:Hp):Option (D × Hp) :=
 (a0p tab h a0h a0h (.nils) t0).bind fun p14=>((a0B (b4e t2 t3 p14.1) [.nils,.int .i64 0,.int .i64 0,.any,.any,.any] p14.2).bind fun r=>some ((a0v 0 r.1),[nth 0 r.2.1,nth 1 r.2.1,nth 2 r.2.1,nth 3 r.2.1,nth 4 r.2.1,nth 5 r.2.1],r.2.2)).bind fun r_2=>a0z r_2.1 ((a0p tab r_2.2.2 a0E a0E (.nils) t2).bind fun p52=>(a0w tab a0h p14.1).bind fun t54=>(a0j tab .lss ty3 t54 t1).bind fun t56=>dIf t56
  ((a0P tab a0d [0,1] [p52.1,t3]).bind fun t60=>(R b2y [p14.1,t60] p52.2).bind fun p61=>scope h p61.2 (a0i [p61.1]))
  ((a0a tab a0h p14.1 (nth 1 r_2.2.1)).bind fun t64=>(a0b tab a0d 1 t64).bind fun t65=>(a0c tab p52.2 ty3 t65).bind fun t66=>(a0y tab a0h false true false [p14.1,nth 1 r_2.2.1]).bind fun t69=>(a0j tab .add ty3 (nth 1 r_2.2.1) (.int .i64 1)).bind fun t72=>(a0y tab a0h true false false [p14.1,t72]).bind fun t73=>(a0p tab p52.2 a0h a0h t69 t73).bind fun p74=>(a0j tab .add ty3 t66 t3).bind fun t79=>(a0P tab a0d [0,1,2] [p52.1,t79,t66]).bind fun t81=>(R b2y [p74.1,t81] p74.2).bind fun p82=>scope h p82.2 (a0i [p82.1]))) fun x_1=>a0H x_1 (scope h r_2.2.2 (a0i [nth 0 r_2.2.1]))
theorem c6y (t0 t1 t2 t3:D) (h:Hp):R b0i [t0,t1,t2,t3] h=c2b t0 t1 t2 t3 h :=
 er i14 (by kernel_rfl) (by kernel_rfl)
noncomputable def b4f (t0 t1:D) (ds:List D) (h_1:Hp):Option Out :=
 (a0w tab a0h t0).bind fun t13=>(a0j tab .lss ty3 (nth 1 ds) t13).bind fun t14=>dIf t14
  ((a0a tab a0h t0 (nth 1 ds)).bind fun t19=>(a0b tab a0d 0 t19).bind fun t20=>(a0c tab h_1 a0E t20).bind fun t21=>(a0a tab a0h t1 (nth 1 ds)).bind fun t24=>(a0b tab a0d 0 t24).bind fun t25=>(a0c tab h_1 a0E t25).bind fun t26=>(R b0a [t21,t26] h_1).bind fun p27=>(dUn .not p27.1).bind fun t28=>(gd t28 false (some t0)).bind fun t30=>(gd t28 false (some (nth 1 ds))).bind fun t31=>(gd t28 false (a0a tab a0h t30 t31)).bind fun t32=>(gd t28 false (a0b tab a0d 1 t32)).bind fun t33=>(gd t28 false (a0c tab p27.2 ty3 t33)).bind fun t34=>(gd t28 false (some t1)).bind fun t35=>(gd t28 false (some (nth 1 ds))).bind fun t36=>(gd t28 false (a0a tab a0h t35 t36)).bind fun t37=>(gd t28 false (a0b tab a0d 1 t37)).bind fun t38=>(gd t28 false (a0c tab p27.2 ty3 t38)).bind fun t39=>(gd t28 false (a0j tab .neq ty3 t34 t39)).bind fun t40=>(a1g t28 (.bool true) t40).bind fun t41=>(gd t41 false (some t0)).bind fun t43=>(gd t41 false (some (nth 1 ds))).bind fun t44=>(gd t41 false (a0a tab a0h t43 t44)).bind fun t45=>(gd t41 false (a0b tab a0d 2 t45)).bind fun t46=>(gd t41 false (a0c tab p27.2 ty3 t46)).bind fun t47=>(gd t41 false (some t1)).bind fun t48=>(gd t41 false (some (nth 1 ds))).bind fun t49=>(gd t41 false (a0a tab a0h t48 t49)).bind fun t50=>(gd t41 false (a0b tab a0d 2 t50)).bind fun t51=>(gd t41 false (a0c tab p27.2 ty3 t51)).bind fun t52=>(gd t41 false (a0j tab .neq ty3 t47 t52)).bind fun t53=>(a1g t41 (.bool true) t53).bind fun t54=>dIf t54
  (some (.ret,[.bool false,nth 1 ds,t14,t54],p27.2))
  ((a0j tab .add ty3 (nth 1 ds) (.int .i64 1)).bind fun t16=>some (.nrm,[nth 0 ds,t16,t14,t54],p27.2)))
  (some ((.ext 0),[nth 0 ds,nth 1 ds,t14,nth 3 ds],h_1))
noncomputable def c2c (t0 t1:D) (h:Hp):Option (D × Hp) :=
 (a0w tab a0h t0).bind fun t7=>(a0w tab a0h t1).bind fun t9=>(a0j tab .neq ty3 t7 t9).bind fun t10=>dIf t10
  (some (a0i [.bool false],h))
  (((a0B (b4f t0 t1) [.bool false,.int .i64 0,.any,.any] h).bind fun r=>some ((a0v 0 r.1),[nth 0 r.2.1,nth 1 r.2.1,nth 2 r.2.1,nth 3 r.2.1],r.2.2)).bind fun r_1=>a0z r_1.1 (some (a0i [.bool true],r_1.2.2)) fun x=>a0H x (some (a0i [nth 0 r_1.2.1],r_1.2.2)))
theorem c6z (t0 t1:D) (h:Hp):R a7Q [t0,t1] h=c2c t0 t1 h :=
 er i15 (by kernel_rfl) (by kernel_rfl)
noncomputable def b4g (t6m t7:D) (ds:List D) (h_1:Hp):Option Out :=
 (a0j tab .lss ty3 (nth 2 ds) t7).bind fun t9=>dIf t9
  ((a0a tab a0h t6m (nth 2 ds)).bind fun t10=>(a0c tab h_1 a0d t10).bind fun t11=>(a7s 3 t11).bind fun t5=>(a0b tab a0d 1 t5).bind fun t13=>(a0c tab h_1 ty3 t13).bind fun t14=>(a0j tab .add ty3 (nth 0 ds) t14).bind fun t15=>(a0j tab .add ty3 (nth 2 ds) (.int .i64 1)).bind fun t16=>some (.nrm,[t15,t5,t16,t9],h_1))
  (some ((.ext 0),[nth 0 ds,nth 1 ds,nth 2 ds,t9],h_1))
noncomputable def c2d (t0:D) (h:Hp):Option (D × Hp) :=
 (a0w tab a0h t0).bind fun t7=>((a0B (b4g t0 t7) [.int .i64 0,.any,.int .i64 0,.any] h).bind fun r=>some ((a0v 0 r.1),[nth 0 r.2.1,nth 1 r.2.1,nth 2 r.2.1,nth 3 r.2.1],r.2.2)).bind fun r_1=>a0z r_1.1 (some (a0i [nth 0 r_1.2.1],r_1.2.2)) fun x=>a0H x (some (a0i [.int .i64 0],r_1.2.2))
theorem c6A (t0:D) (h:Hp):R b0j [t0] h=c2d t0 h :=
 er i16 (by kernel_rfl) (by kernel_rfl)
noncomputable def b4h (t0:D) (ds:List D) (h_1:Hp):Option Out :=
 (a0w tab a0h t0).bind fun t7=>(a0j tab .lss ty3 (nth 1 ds) t7).bind fun t8=>dIf t8
  ((a0a tab a0h t0 (nth 1 ds)).bind fun t14=>(a0b tab a0d 1 t14).bind fun t15=>(a0c tab h_1 ty3 t15).bind fun t16=>(a0j tab .add ty3 (nth 0 ds) t16).bind fun t17=>(a0j tab .add ty3 (nth 1 ds) (.int .i64 1)).bind fun t10=>some (.nrm,[t17,t10,t8],h_1))
  (some ((.ext 0),[nth 0 ds,nth 1 ds,t8],h_1))
noncomputable def c2e (t0:D) (h:Hp):Option (D × Hp) :=
 ((a0B (b4h t0) [.int .i64 0,.int .i64 0,.any] h).bind fun r=>some ((a0v 0 r.1),[nth 0 r.2.1,nth 1 r.2.1,nth 2 r.2.1],r.2.2)).bind fun r_1=>a0z r_1.1 (some (a0i [nth 0 r_1.2.1],r_1.2.2)) fun x=>a0H x (some (a0i [.int .i64 0],r_1.2.2))
theorem c6B (t0:D) (h:Hp):R b0k [t0] h=c2e t0 h :=
 er i17 (by kernel_rfl) (by kernel_rfl)
noncomputable def b4i (t0:D) (ds:List D) (h_1:Hp):Option Out :=
 (a0w tab a0h t0).bind fun t9=>(a0j tab .lss ty3 (nth 1 ds) t9).bind fun t10=>dIf t10
  ((a0a tab a0h t0 (nth 1 ds)).bind fun t16=>(a0b tab a0d 0 t16).bind fun t17=>(a0c tab h_1 a0E t17).bind fun t18=>((a0p tab h_1 a0E a0E (.nils) t18).bind fun p=>some (b1v p)).bind fun p19=>(a0a tab a0h t0 (nth 1 ds)).bind fun t22=>(a0b tab a0d 1 t22).bind fun t23=>(a0c tab p19.2 ty3 t23).bind fun t24=>(a0A tab a0V 1 [0] [t24]).bind fun t25=>(a0a tab a0h t0 (nth 1 ds)).bind fun t28=>(a0b tab a0d 2 t28).bind fun t29=>(a0c tab p19.2 ty3 t29).bind fun t30=>(a0P tab a0k [0,1,2] [p19.1,t25,t30]).bind fun t31=>(a0A tab a0t 1 [0] [t31]).bind fun t32=>(a0p tab p19.2 a0t a0t (nth 0 ds) t32).bind fun p33=>chk (a0c tab h_1 ty3 t23=some t24)
 (chk (a0c tab h_1 ty3 t29=some t30)
 ((a0j tab .add ty3 (nth 1 ds) (.int .i64 1)).bind fun t12=>some (.nrm,[p33.1,t12,t10],p33.2))))
  (some ((.ext 0),[nth 0 ds,nth 1 ds,t10],h_1))
noncomputable def c2f (t0 t1:D) (h:Hp):Option (D × Hp) :=
 ((a0B (b4i t0) [.nils,.int .i64 0,.any] h).bind fun r=>some ((a0v 0 r.1),[nth 0 r.2.1,nth 1 r.2.1,nth 2 r.2.1],r.2.2)).bind fun r_1=>a0z r_1.1 ((R b5Y [nth 0 r_1.2.1,t1] r_1.2.2).bind fun p36=>scope h p36.2 (a0i [p36.1])) fun x=>a0H x (scope h r_1.2.2 (a0i [.nils]))
theorem c6C (t0 t1:D) (h:Hp):R b0l [t0,t1] h=c2f t0 t1 h :=
 er i18 (by kernel_rfl) (by kernel_rfl)
noncomputable def F44 (t0 t1:D) (h:Hp):Option (D × Hp) :=
 (a0w tab a5m t0).bind fun t7=>(b1o t7 t1).bind fun t9=>(a0y tab a5m false true false [t0,t9]).bind fun t10=>(a0P tab a3s [0] [t10]).bind fun t11=>(b8T a3s 2 h t11).bind fun p12=>some (a0i [p12.1],p12.2)
theorem e44 (t0 t1:D) (h:Hp):R c3H [t0,t1] h=F44 t0 t1 h :=
 er i19 (by kernel_rfl) (by kernel_rfl)
noncomputable def b9a (t0:D) (h:Hp):Option (D × Hp) :=
 (a0A tab a0E 5 [0,1,2,3,4] [.str [108,101,118,101,108],.str [64,104,111,115,116],.str [64,115,116,114,101,97,109],.str [99,111,100,101],.str [64,116,114,97,99,101]]).bind fun t4=>(R a3S [t0,.int .i64 5] h).bind fun p6=>(a0a tab a0E t4 p6.1).bind fun t7=>(a0c tab p6.2 ty9 t7).bind fun t8=>(a0A tab a0E 1 [0] [t8]).bind fun t9=>(R a3S [t0,.int .i64 2] p6.2).bind fun p11=>(a0j tab .eql ty3 p11.1 (.int .i64 1)).bind fun t12=>(dIf t12
  ((R b2q [t0] p11.2).bind fun p15=>(a0A tab a0E 1 [0] [p15.1]).bind fun t16=>(a0p tab p15.2 a0E a0E t9 t16).bind fun p17=>some (.nrm,[p17.1],p17.2))
  (some (.nrm,[t9],p11.2))).bind fun r=>a0z r.1 (scope h r.2.2 (a0i [nth 0 r.2.1])) fun x=>a0H x (scope h r.2.2 (a0i [.nils]))
theorem c2H (t0:D) (h:Hp):R a9X [t0] h=b9a t0 h :=
 er i20 (by kernel_rfl) (by kernel_rfl)
noncomputable def b1s (t7m:D) (ds_1:List D) (ds_2:List D) (h_3:Hp):Option Out :=
 (a0a tab a3C t7m (nth 1 ds_1)).bind fun t30=>(a0c tab h_3 a2r t30).bind fun t31=>(a0w tab a2r t31).bind fun t32=>(a0j tab .lss ty3 (nth 1 ds_2) t32).bind fun t33=>dIf t33
  ((a0a tab a3C t7m (nth 1 ds_1)).bind fun t38=>(a0c tab h_3 a2r t38).bind fun t39=>(a0a tab a2r t39 (nth 1 ds_2)).bind fun t41=>(a0b tab a2j 0 t41).bind fun t42=>(a0c tab h_3 ty9 t42).bind fun t43=>(a0j tab .eql ty9 t43 (.str [])).bind fun t44=>(dIf t44
  ((a0a tab a3C t7m (nth 1 ds_1)).bind fun t48=>(a0c tab h_3 a2r t48).bind fun t49=>(a0a tab a2r t49 (nth 1 ds_2)).bind fun t51=>(a0b tab a2j 1 t51).bind fun t52=>(a0c tab h_3 a0R t52).bind fun t53=>(R c1K [nth 0 ds_2,t53] h_3).bind fun p54=>some (.nrm,[p54.1],p54.2))
  (some (.nrm,[nth 0 ds_2],h_3))).bind fun r_3=>a0z (a0v 5 r_3.1) ((a0j tab .add ty3 (nth 1 ds_2) (.int .i64 1)).bind fun t35=>some (.nrm,[nth 0 r_3.2.1,t35,t33,t44],r_3.2.2)) fun x=>some (x,[nth 0 r_3.2.1,nth 1 ds_2,t33,t44],r_3.2.2))
  (some ((.ext 4),[nth 0 ds_2,nth 1 ds_2,t33,nth 3 ds_2],h_3))
noncomputable def b1r (t7m:D) (ds_1:List D) (h_2:Hp):Option Out :=
 (a0w tab a3C t7m).bind fun t23=>(a0j tab .lss ty3 (nth 1 ds_1) t23).bind fun t24=>dIf t24
  (((a0B (b1s t7m ds_1) [nth 0 ds_1,.int .i64 0,nth 4 ds_1,nth 5 ds_1] h_2).bind fun r_2=>some ((a0v 4 r_2.1),[nth 0 r_2.2.1,nth 1 r_2.2.1,nth 2 r_2.2.1,nth 3 r_2.2.1],r_2.2.2)).bind fun r_4=>a0z (a0v 3 r_4.1) ((a0j tab .add ty3 (nth 1 ds_1) (.int .i64 1)).bind fun t26=>some (.nrm,[nth 0 r_4.2.1,t26,nth 1 r_4.2.1,t24,nth 2 r_4.2.1,nth 3 r_4.2.1],r_4.2.2)) fun x_1=>some (x_1,[nth 0 r_4.2.1,nth 1 ds_1,nth 1 r_4.2.1,t24,nth 2 r_4.2.1,nth 3 r_4.2.1],r_4.2.2))
  (some ((.ext 2),[nth 0 ds_1,nth 1 ds_1,nth 2 ds_1,t24,nth 4 ds_1,nth 5 ds_1],h_2))
noncomputable def b5H (t0 t1:D) (ds:List D) (h_1:Hp):Option Out :=
 (R a3S [t0,.int .i64 2] h_1).bind fun p12=>(a0j tab .add ty3 (.int .i64 1) p12.1).bind fun t13=>(a0j tab .leq ty3 (nth 1 ds) t13).bind fun t14=>dIf t14
  ((R c0u [t0,nth 1 ds,t1] p12.2).bind fun p20=>((a0B (b1r p20.1) [nth 0 ds,.int .i64 0,nth 4 ds,nth 6 ds,nth 7 ds,nth 8 ds] p20.2).bind fun r_1=>some ((a0v 2 r_1.1),[nth 0 r_1.2.1,nth 1 r_1.2.1,nth 2 r_1.2.1,nth 3 r_1.2.1,nth 4 r_1.2.1,nth 5 r_1.2.1],r_1.2.2)).bind fun r_5=>a0z (a0v 1 r_5.1) ((a0j tab .add ty3 (nth 1 ds) (.int .i64 1)).bind fun t16=>some (.nrm,[nth 0 r_5.2.1,t16,p20.1,nth 1 r_5.2.1,nth 2 r_5.2.1,t14,nth 3 r_5.2.1,nth 4 r_5.2.1,nth 5 r_5.2.1],r_5.2.2)) fun x_2=>some (x_2,[nth 0 r_5.2.1,nth 1 ds,p20.1,nth 1 r_5.2.1,nth 2 r_5.2.1,t14,nth 3 r_5.2.1,nth 4 r_5.2.1,nth 5 r_5.2.1],r_5.2.2))
  (some ((.ext 0),[nth 0 ds,nth 1 ds,nth 2 ds,nth 3 ds,nth 4 ds,t14,nth 6 ds,nth 7 ds,nth 8 ds],p12.2))
noncomputable def F48 (t0 t1:D) (h:Hp):Option (D × Hp) :=
 ((a0B (b5H t0 t1) [.nils,.int .i64 1,.any,.any,.any,.any,.any,.any,.any] h).bind fun r=>some ((a0v 0 r.1),[nth 0 r.2.1,nth 1 r.2.1,nth 2 r.2.1,nth 3 r.2.1,nth 4 r.2.1,nth 5 r.2.1,nth 6 r.2.1,nth 7 r.2.1,nth 8 r.2.1],r.2.2)).bind fun r_6=>a0z r_6.1 (some (a0i [nth 0 r_6.2.1],r_6.2.2)) fun x_3=>a0H x_3 (some (a0i [.nils],r_6.2.2))
theorem e48 (t0 t1:D) (h:Hp):R c1I [t0,t1] h=F48 t0 t1 h :=
 er i21 (by kernel_rfl) (by kernel_rfl)
noncomputable def F24 (t0 t1:D) (h:Hp):Option (D × Hp) :=
 (R c1J [t0] h).bind fun p7=>(dUn .not p7.1).bind fun t8=>(gd t8 false (some t1)).bind fun t10=>(gd t8 false (a0j tab .lss ty3 t10 (.int .i64 1))).bind fun t11=>(a1g t8 (.bool true) t11).bind fun t12=>dIf t12
  (some (a0i [.int .i64 0],p7.2))
  ((a1E tab t0).bind fun t14=>(a0b tab a3s 0 t14).bind fun t15=>(a0c tab p7.2 a5m t15).bind fun t16=>(a1E tab t0).bind fun t18=>(a0b tab a3s 1 t18).bind fun t19=>(a0c tab p7.2 ty3 t19).bind fun t20=>(a0a tab a5m t16 t20).bind fun t21=>(a0c tab p7.2 ty5 t21).bind fun t22=>(a1B tab ty5 ty3 t22).bind fun t23=>(a1E tab t0).bind fun t25=>(a0b tab a3s 1 t25).bind fun t26=>(a0c tab p7.2 ty3 t26).bind fun t27=>(a0j tab .add ty3 t27 (.int .i64 1)).bind fun t28=>(a1E tab t0).bind fun t29=>(a0b tab a3s 1 t29).bind fun t30=>((a0s tab p7.2 ty3 t30 t28).bind fun h'=>some ((.und:D),h')).bind fun p907=>(a0j tab .mul ty3 t23 t1).bind fun t33=>(a0j tab .quo ty3 t33 (.int .i64 256)).bind fun t34=>some (a0i [t34],p907.2))
theorem e24 (t0 t1:D) (h:Hp):R a3S [t0,t1] h=F24 t0 t1 h :=
 er i22 (by kernel_rfl) (by kernel_rfl)
noncomputable def a9f (t1:D) (ds:List D) (h_1:Hp):Option Out :=
 (a0w tab a0S t1).bind fun t9=>(a0j tab .lss ty3 (nth 1 ds) t9).bind fun t10=>dIf t10
  ((a0a tab a0S t1 (nth 1 ds)).bind fun t16=>(a0b tab a0o 0 t16).bind fun t17=>(a0c tab h_1 a0E t17).bind fun t18=>((a0p tab h_1 a0E a0E (.nils) t18).bind fun p=>some (b1v p)).bind fun p19=>(a0a tab a0S t1 (nth 1 ds)).bind fun t22=>(a0b tab a0o 1 t22).bind fun t23=>(a0c tab p19.2 a0V t23).bind fun t24=>((a0p tab p19.2 a0V a0V (.nils) t24).bind fun p=>some (b1v p)).bind fun p25=>(a0P tab a0k [0,1] [p19.1,p25.1]).bind fun t26=>(a0A tab a0t 1 [0] [t26]).bind fun t27=>(a0p tab p25.2 a0t a0t (nth 0 ds) t27).bind fun p28=>chk (a0c tab h_1 a0V t23=some t24)
 ((a0j tab .add ty3 (nth 1 ds) (.int .i64 1)).bind fun t12=>some (.nrm,[p28.1,t12,t10],p28.2)))
  (some ((.ext 0),[nth 0 ds,nth 1 ds,t10],h_1))
noncomputable def b9b (t0 t1:D) (h:Hp):Option (D × Hp) :=
 ((a0B (a9f t1) [.nils,.int .i64 0,.any] h).bind fun r=>some ((a0v 0 r.1),[nth 0 r.2.1,nth 1 r.2.1,nth 2 r.2.1],r.2.2)).bind fun r_1=>a0z r_1.1 (scope h r_1.2.2 (a0i [nth 0 r_1.2.1])) fun x=>a0H x (scope h r_1.2.2 (a0i [.nils]))
theorem c2I (t0 t1:D) (h:Hp):R a9Y [t0,t1] h=b9b t0 t1 h :=
 er i23 (by kernel_rfl) (by kernel_rfl)
noncomputable def a9g (t0 t1 t2:D) (ds:List D) (h_1:Hp):Option Out :=
 (a0w tab a3Y t2).bind fun t11=>(a0j tab .lss ty3 (nth 1 ds) t11).bind fun t12=>dIf t12
  ((a0a tab a3Y t2 (nth 1 ds)).bind fun t20=>(a0c tab h_1 a0R t20).bind fun t21=>(R b2r [nth 0 ds,t0,t1,t21] h_1).bind fun p22=>(a0j tab .add ty3 (nth 1 ds) (.int .i64 1)).bind fun t14=>some (.nrm,[p22.1,t14,t12],p22.2))
  (some ((.ext 0),[nth 0 ds,nth 1 ds,t12],h_1))
noncomputable def b9c (t0 t1 t2:D) (h:Hp):Option (D × Hp) :=
 ((a0B (a9g t0 t1 t2) [.nils,.int .i64 0,.any] h).bind fun r=>some ((a0v 0 r.1),[nth 0 r.2.1,nth 1 r.2.1,nth 2 r.2.1],r.2.2)).bind fun r_1=>a0z r_1.1 (some (a0i [nth 0 r_1.2.1],r_1.2.2)) fun x=>a0H x (some (a0i [.nils],r_1.2.2))
theorem c2J (t0 t1 t2:D) (h:Hp):R a9Z [t0,t1,t2] h=b9c t0 t1 t2 h :=
 er i24 (by kernel_rfl) (by kernel_rfl)
noncomputable def a9h (t0 t1:D) (ds:List D) (h_1:Hp):Option Out :=
 (a0w tab a0E t0).bind fun t13=>(a0j tab .lss ty3 (nth 1 ds) t13).bind fun t14=>dIf t14
  ((a0a tab a0E t0 (nth 1 ds)).bind fun t19=>(a0c tab h_1 ty9 t19).bind fun t20=>(a0a tab a0E t1 (nth 1 ds)).bind fun t23=>(a0c tab h_1 ty9 t23).bind fun t24=>(a0j tab .neq ty9 t20 t24).bind fun t25=>dIf t25
  (some (.ret,[.bool false,nth 1 ds,t14,t25],h_1))
  ((a0j tab .add ty3 (nth 1 ds) (.int .i64 1)).bind fun t16=>some (.nrm,[nth 0 ds,t16,t14,t25],h_1)))
  (some ((.ext 0),[nth 0 ds,nth 1 ds,t14,nth 3 ds],h_1))
noncomputable def b9d (t0 t1:D) (h:Hp):Option (D × Hp) :=
 (a0w tab a0E t0).bind fun t7=>(a0w tab a0E t1).bind fun t9=>(a0j tab .neq ty3 t7 t9).bind fun t10=>dIf t10
  (some (a0i [.bool false],h))
  (((a0B (a9h t0 t1) [.bool false,.int .i64 0,.any,.any] h).bind fun r=>some ((a0v 0 r.1),[nth 0 r.2.1,nth 1 r.2.1,nth 2 r.2.1,nth 3 r.2.1],r.2.2)).bind fun r_1=>a0z r_1.1 (some (a0i [.bool true],r_1.2.2)) fun x=>a0H x (some (a0i [nth 0 r_1.2.1],r_1.2.2)))
theorem c2K (t0 t1:D) (h:Hp):R b0a [t0,t1] h=b9d t0 t1 h :=
 er i25 (by kernel_rfl) (by kernel_rfl)
noncomputable def a9i (t0 t1:D) (ds:List D) (h_1:Hp):Option Out :=
 (a0w tab a0V t0).bind fun t13=>(a0j tab .lss ty3 (nth 1 ds) t13).bind fun t14=>dIf t14
  ((a0a tab a0V t0 (nth 1 ds)).bind fun t19=>(a0c tab h_1 ty3 t19).bind fun t20=>(a0a tab a0V t1 (nth 1 ds)).bind fun t23=>(a0c tab h_1 ty3 t23).bind fun t24=>(a0j tab .neq ty3 t20 t24).bind fun t25=>dIf t25
  (some (.ret,[.bool false,nth 1 ds,t14,t25],h_1))
  ((a0j tab .add ty3 (nth 1 ds) (.int .i64 1)).bind fun t16=>some (.nrm,[nth 0 ds,t16,t14,t25],h_1)))
  (some ((.ext 0),[nth 0 ds,nth 1 ds,t14,nth 3 ds],h_1))
noncomputable def b9e (t0 t1:D) (h:Hp):Option (D × Hp) :=
 (a0w tab a0V t0).bind fun t7=>(a0w tab a0V t1).bind fun t9=>(a0j tab .neq ty3 t7 t9).bind fun t10=>dIf t10
  (some (a0i [.bool false],h))
  (((a0B (a9i t0 t1) [.bool false,.int .i64 0,.any,.any] h).bind fun r=>some ((a0v 0 r.1),[nth 0 r.2.1,nth 1 r.2.1,nth 2 r.2.1,nth 3 r.2.1],r.2.2)).bind fun r_1=>a0z r_1.1 (some (a0i [.bool true],r_1.2.2)) fun x=>a0H x (some (a0i [nth 0 r_1.2.1],r_1.2.2)))
theorem c2L (t0 t1:D) (h:Hp):R b2o [t0,t1] h=b9e t0 t1 h :=
 er i26 (by kernel_rfl) (by kernel_rfl)
noncomputable def b6J (t0:D) (h:Hp):Option (D × Hp) :=
 (a0j tab .eql a0h t0 (.nils)).bind fun t4=>dIf t4
  (some (a0i [.nils],h))
  ((a0A tab a0h 0 [] []).bind fun t5=>(a0p tab h a0h a0h t5 t0).bind fun p7=>some (a0i [p7.1],p7.2))
theorem c3h (t0:D) (h:Hp):R a7R [t0] h=b6J t0 h :=
 er i27 (by kernel_rfl) (by kernel_rfl)
noncomputable def b6K (t0 t1:D) (h:Hp):Option (D × Hp) :=
 (a0w tab a0h t0).bind fun t6=>(R b0r [t0,t6,t1] h).bind fun p8=>some (a0i [],p8.2)
theorem c0o (t0 t1:D) (h:Hp):R a7S [t0,t1] h=b6K t0 t1 h :=
 er i28 (by kernel_rfl) (by kernel_rfl)
noncomputable def b9z (t0 t1:D) (h:Hp):Option (D × Hp) :=
 (a1H t0).bind fun t2=>(a1H t1).bind fun t3=>(a0b tab a0d 1 t3).bind fun t5=>(a0c tab h ty3 t5).bind fun t6=>(a0b tab a0d 1 t2).bind fun t7=>(a0c tab h ty3 t7).bind fun t8=>(R c0w [t6,t8] h).bind fun p9=>(a0b tab a0d 0 t2).bind fun t10=>(a0c tab p9.2 a0E t10).bind fun t11=>(a0b tab a0d 0 t3).bind fun t12=>(a0c tab p9.2 a0E t12).bind fun t13=>(R a4Y [t11,t13] p9.2).bind fun p14=>(a0A tab a0V 2 [0,1] [p9.1,p14.1]).bind fun t15=>(R c0v [t15] p14.2).bind fun p16=>chk (a0c tab h a0E t10=some t11)
 (chk (a0c tab h a0E t12=some t13)
 (some (a0i [p16.1],p16.2)))
theorem c3i (t0 t1:D) (h:Hp):R a5N [t0,t1] h=b9z t0 t1 h :=
 er i29 (by kernel_rfl) (by kernel_rfl)
noncomputable def a7n (t3m t6m t7:D) (ds:List D) (h_1:Hp):Option Out :=
 (a0j tab .lss ty3 (nth 2 ds) t7).bind fun t9=>dIf t9
  ((a0a tab a0V t6m (nth 2 ds)).bind fun t10=>(a0c tab h_1 ty3 t10).bind fun t11=>(a0j tab .neq ty3 t11 t3m).bind fun t14=>dIf t14
  (some (.ret,[t11,t11,nth 2 ds,t9,t14],h_1))
  ((a0j tab .add ty3 (nth 2 ds) (.int .i64 1)).bind fun t16=>some (.nrm,[nth 0 ds,t11,t16,t9,t14],h_1)))
  (some ((.ext 0),[nth 0 ds,nth 1 ds,nth 2 ds,t9,nth 4 ds],h_1))
noncomputable def F89 (t0:D) (h:Hp):Option (D × Hp) :=
 (a0w tab a0V t0).bind fun t7=>((a0B (a7n (.int .i64 0) t0 t7) [.int .i64 0,.any,.int .i64 0,.any,.any] h).bind fun r=>some ((a0v 0 r.1),[nth 0 r.2.1,nth 1 r.2.1,nth 2 r.2.1,nth 3 r.2.1,nth 4 r.2.1],r.2.2)).bind fun r_1=>a0z r_1.1 (some (a0i [.int .i64 0],r_1.2.2)) fun x=>a0H x (some (a0i [nth 0 r_1.2.1],r_1.2.2))
theorem e89 (t0:D) (h:Hp):R c0v [t0] h=F89 t0 h :=
 er i30 (by kernel_rfl) (by kernel_rfl)
noncomputable def F90 (t0 t1:D) (h:Hp):Option (D × Hp) :=
 (R c1P [t0] h).bind fun p8=>(R c1P [t1] p8.2).bind fun p10=>dIf p8.1
  (dIf p10.1
  (some (a0i [.int .i64 0],p10.2))
  (some (a0i [.int .i64 (-1)],p10.2)))
  (dIf p10.1
  (some (a0i [.int .i64 1],p10.2))
  ((a0j tab .lss ty3 t0 t1).bind fun t16=>dIf t16
  (some (a0i [.int .i64 (-1)],p10.2))
  ((a0j tab .gtr ty3 t0 t1).bind fun t19=>dIf t19
  (some (a0i [.int .i64 1],p10.2))
  (some (a0i [.int .i64 0],p10.2)))))
theorem e90 (t0 t1:D) (h:Hp):R c0w [t0,t1] h=F90 t0 t1 h :=
 er i31 (by kernel_rfl) (by kernel_rfl)
noncomputable def b9h (t0 t1:D) (h:Hp):Option (D × Hp) :=
 (R b2s [t0,t1] h).bind fun p7=>some (a0i [p7.1],p7.2)
theorem c2P (t0 t1:D) (h:Hp):R a4Y [t0,t1] h=b9h t0 t1 h :=
 er i32 (by kernel_rfl) (by kernel_rfl)
noncomputable def b6L (t0 t1:D) (h:Hp):Option (D × Hp) :=
 (b4K t1 (.int .i64 0)).bind fun t7=>(a0w tab a0h t0).bind fun t9=>(b1o t7 t9).bind fun t10=>(a0y tab a0h false true false [t0,t10]).bind fun t11=>some (a0i [t11],h)
theorem c0p (t0 t1:D) (h:Hp):R b2w [t0,t1] h=b6L t0 t1 h :=
 er i33 (by kernel_rfl) (by kernel_rfl)
noncomputable def b6M (t0:D) (h:Hp):Option (D × Hp) :=
 (a0j tab .eql a0E t0 (.nils)).bind fun t4=>dIf t4
  (scope h h (a0i [.nils]))
  ((a0A tab a0E 0 [] []).bind fun t5=>(a0p tab h a0E a0E t5 t0).bind fun p7=>scope h p7.2 (a0i [p7.1]))
theorem c3j (t0:D) (h:Hp):R b0m [t0] h=b6M t0 h :=
 er i34 (by kernel_rfl) (by kernel_rfl)
noncomputable def b6E (t0:D) (h:Hp):Option (D × Hp) :=
 (a0j tab .eql a0t t0 (.nils)).bind fun t4=>dIf t4
  (some (a0i [.nils],h))
  ((a0A tab a0t 0 [] []).bind fun t5=>(a0p tab h a0t a0t t5 t0).bind fun p7=>some (a0i [p7.1],p7.2))
theorem c2M (t0:D) (h:Hp):R b2p [t0] h=b6E t0 h :=
 er i36 (by kernel_rfl) (by kernel_rfl)
noncomputable def b6F (t0 t1:D) (h:Hp):Option (D × Hp) :=
 (a0w tab a0t t0).bind fun t6=>(R b0d [t0,t6,t1] h).bind fun p8=>some (a0i [],p8.2)
theorem c0k (t0 t1:D) (h:Hp):R b0b [t0,t1] h=b6F t0 t1 h :=
 er i37 (by kernel_rfl) (by kernel_rfl)
noncomputable def b9f (t0 t1:D) (h:Hp):Option (D × Hp) :=
 (a1H t0).bind fun t2=>(a1H t1).bind fun t3=>(a0c tab h a0k t3).bind fun t5=>(R b0c [t5] h).bind fun p6=>(a0c tab p6.2 a0k t2).bind fun t7=>(R b0c [t7] p6.2).bind fun p8=>(R c0w [p6.1,p8.1] p8.2).bind fun p9=>(a0b tab a0k 0 t2).bind fun t10=>(a0c tab p9.2 a0E t10).bind fun t11=>(a0b tab a0k 0 t3).bind fun t12=>(a0c tab p9.2 a0E t12).bind fun t13=>(R a4Y [t11,t13] p9.2).bind fun p14=>(a0A tab a0V 2 [0,1] [p9.1,p14.1]).bind fun t15=>(R c0v [t15] p14.2).bind fun p16=>chk (a0c tab h a0k t2=some t7)
 (chk (a0c tab h a0E t10=some t11)
 (chk (a0c tab p6.2 a0E t10=some t11)
 (chk (a0c tab p8.2 a0E t10=some t11)
 (chk (a0c tab h a0E t12=some t13)
 (chk (a0c tab p6.2 a0E t12=some t13)
 (chk (a0c tab p8.2 a0E t12=some t13)
 (some (a0i [p16.1],p16.2))))))))
theorem c2N (t0 t1:D) (h:Hp):R a7M [t0,t1] h=b9f t0 t1 h :=
 er i38 (by kernel_rfl) (by kernel_rfl)
noncomputable def b9g (t0:D) (h:Hp):Option (D × Hp) :=
 (a1H t0).bind fun t1=>(a0b tab a0k 1 t1).bind fun t3=>(a0c tab h a0V t3).bind fun t4=>(a0w tab a0V t4).bind fun t5=>(a0j tab .eql ty3 t5 (.int .i64 0)).bind fun t6=>dIf t6
  (some (a0i [.int .i64 0],h))
  ((a0b tab a0k 1 t1).bind fun t7=>(a0c tab h a0V t7).bind fun t8=>(a0a tab a0V t8 (.int .i64 0)).bind fun t9=>(a0c tab h ty3 t9).bind fun t10=>some (a0i [t10],h))
theorem c2O (t0:D) (h:Hp):R b0c [t0] h=b9g t0 h :=
 er i39 (by kernel_rfl) (by kernel_rfl)
noncomputable def b6G (t0 t1:D) (h:Hp):Option (D × Hp) :=
 (b4K t1 (.int .i64 0)).bind fun t7=>(a0w tab a0t t0).bind fun t9=>(b1o t7 t9).bind fun t10=>(a0y tab a0t false true false [t0,t10]).bind fun t11=>some (a0i [t11],h)
theorem c0l (t0 t1:D) (h:Hp):R b5Z [t0,t1] h=b6G t0 t1 h :=
 er i40 (by kernel_rfl) (by kernel_rfl)
noncomputable def b9r (t0 t1:D) (h:Hp):Option (D × Hp) :=
 (a1H t0).bind fun t2=>(a0j tab .eql ty9 t1 (.str [64,104,111,115,116])).bind fun t8=>dIf t8
  ((a0b tab a0R 0 t2).bind fun t9=>(a0c tab h ty3 t9).bind fun t10=>(R a5M [t10] h).bind fun p11=>some (a0i [p11.1,.bool true],p11.2))
  ((a0j tab .eql ty9 t1 (.str [64,102,105,108,101])).bind fun t13=>dIf t13
  ((a0b tab a0R 1 t2).bind fun t14=>(a0c tab h ty3 t14).bind fun t15=>(R a5M [t15] h).bind fun p16=>some (a0i [p16.1,.bool true],p16.2))
  ((a0j tab .eql ty9 t1 (.str [64,116,105,109,101])).bind fun t18=>dIf t18
  ((a0b tab a0R 5 t2).bind fun t19=>(a0c tab h ty3 t19).bind fun t20=>(R a5M [t20] h).bind fun p21=>some (a0i [p21.1,.bool true],p21.2))
  ((a0j tab .eql ty9 t1 (.str [64,119,101,105,103,104,116])).bind fun t23=>dIf t23
  ((a0b tab a0R 6 t2).bind fun t24=>(a0c tab h ty3 t24).bind fun t25=>(R a5M [t25] h).bind fun p26=>some (a0i [p26.1,.bool true],p26.2))
  ((a0j tab .eql ty9 t1 (.str [64,116,114,97,99,101])).bind fun t28=>dIf t28
  ((a0b tab a0R 7 t2).bind fun t29=>(a0c tab h ty9 t29).bind fun t30=>some (a0i [t30,.bool true],h))
  ((a0j tab .eql ty9 t1 (.str [64,115,116,114,101,97,109])).bind fun t32=>dIf t32
  ((a0b tab a0R 8 t2).bind fun t33=>(a0c tab h ty9 t33).bind fun t34=>some (a0i [t34,.bool true],h))
  ((a0b tab a0R 9 t2).bind fun t35=>(a0c tab h a5r t35).bind fun t36=>(R c3J [t36,t1] h).bind fun p38=>(a0D 0 p38.1).bind fun t39=>(a0D 1 p38.1).bind fun t40=>some (a0i [t39,t40],p38.2)))))))
theorem c2Z (t0 t1:D) (h:Hp):R a7N [t0,t1] h=b9r t0 t1 h :=
 er i41 (by kernel_rfl) (by kernel_rfl)
noncomputable def b9B (t0 t1:D) (h:Hp):Option (D × Hp) :=
 (a0c tab h a0h t0).bind fun t4=>(a0c tab h a0E t1).bind fun t5=>(R b0o [t4,t5,.fn (.func a7T) [] []] h).bind fun p6=>(a0D 0 p6.1).bind fun t7=>(a0D 1 p6.1).bind fun t8=>some (a0i [t7,t8],p6.2)
theorem c3l (t0 t1:D) (h:Hp):R b2x [t0,t1] h=b9B t0 t1 h :=
 er i42 (by kernel_rfl) (by kernel_rfl)
noncomputable def a9u (t0 t1 t2:D) (ds:List D) (h_1:Hp):Option Out :=
 (a0j tab .lss ty3 (nth 0 ds) (nth 1 ds)).bind fun t17=>dIf t17
  ((a0j tab .add ty3 (nth 0 ds) (nth 1 ds)).bind fun t20=>(a1B tab ty3 a1U t20).bind fun t21=>(a0j tab .shr a1U t21 (.int .u64 1)).bind fun t22=>(a1B tab a1U ty3 t22).bind fun t23=>(a0a tab a0h t0 t23).bind fun t27=>(a0c tab h_1 a0d t27).bind fun t28=>(a1V R t2 [t28,t1] h_1).bind fun p30=>(a0j tab .lss ty3 p30.1 (.int .i64 0)).bind fun t31=>(dIf t31
  ((a0j tab .add ty3 t23 (.int .i64 1)).bind fun t33=>some (.nrm,[t33,nth 1 ds],p30.2))
  (some (.nrm,[nth 0 ds,t23],p30.2))).bind fun r_1=>some ((a0v 1 r_1.1),[nth 0 r_1.2.1,nth 1 r_1.2.1,t23,t17,t31],r_1.2.2))
  (some ((.ext 0),[nth 0 ds,nth 1 ds,nth 2 ds,t17,nth 4 ds],h_1))
noncomputable def b9C (t0 t1 t2:D) (h:Hp):Option (D × Hp) :=
 (a0w tab a0h t0).bind fun t13=>((a0B (a9u t0 t1 t2) [.int .i64 0,t13,.any,.any,.any] h).bind fun r=>some ((a0v 0 r.1),[nth 0 r.2.1,nth 1 r.2.1,nth 2 r.2.1,nth 3 r.2.1,nth 4 r.2.1],r.2.2)).bind fun r_2=>a0z r_2.1 ((a0j tab .lss ty3 (nth 0 r_2.2.1) t13).bind fun t38=>(gd t38 true (some t2)).bind fun t40=>(gd t38 true (some t0)).bind fun t41=>(gd t38 true (some (nth 0 r_2.2.1))).bind fun t42=>(gd t38 true (a0a tab a0h t41 t42)).bind fun t43=>(gd t38 true (a0c tab r_2.2.2 a0d t43)).bind fun t44=>(gd t38 true (some t1)).bind fun t45=>(gdW t38 true r_2.2.2 (a1V R t40 [t44,t45] r_2.2.2)).bind fun p46=>(gd t38 true (a0j tab .eql ty3 p46.1 (.int .i64 0))).bind fun t47=>(a1g t38 t47 (.bool false)).bind fun t48=>some (a0i [nth 0 r_2.2.1,t48],p46.2)) fun x=>a0H x (some (a0i [.int .i64 0,.bool false],r_2.2.2))
theorem c3m (t0 t1 t2:D) (h:Hp):R b0o [t0,t1,t2] h=b9C t0 t1 t2 h :=
 er i43 (by kernel_rfl) (by kernel_rfl)
noncomputable def b9D (t0 t1:D) (h:Hp):Option (D × Hp) :=
 (a1H t0).bind fun t2=>(a0b tab a0d 0 t2).bind fun t5=>(a0c tab h a0E t5).bind fun t6=>(R a4Y [t6,t1] h).bind fun p8=>some (a0i [p8.1],p8.2)
theorem c3n (t0 t1:D) (h:Hp):R a7T [t0,t1] h=b9D t0 t1 h :=
 er i44 (by kernel_rfl) (by kernel_rfl)
noncomputable def a9v (t0 t1:D) (p5:D × Hp) (ds:List D) (h_1:Hp):Option Out :=
 (a0w tab a0h t0).bind fun t16=>(a0j tab .lss ty3 (nth 0 ds) t16).bind fun t17=>dIf t17
  ((a0a tab a0h t0 (nth 0 ds)).bind fun t23=>(a0c tab h_1 a0d t23).bind fun t24=>(a0c tab h_1 a0d p5.1).bind fun t25=>(a1V R t1 [t24,t25] h_1).bind fun p26=>(a0j tab .lss ty3 p26.1 (.int .i64 0)).bind fun t27=>(dIf t27
  ((a0a tab a0h t0 (nth 0 ds)).bind fun t30=>(a0c tab p26.2 a0d t30).bind fun t31=>((a0s tab p26.2 a0d p5.1 t31).bind fun h'=>some ((.und:D),h')).bind fun p904_1=>some (.nrm,([]:List D),p904_1.2))
  (some (.nrm,([]:List D),p26.2))).bind fun r_2=>a0z (a0v 1 r_2.1) ((a0j tab .add ty3 (nth 0 ds) (.int .i64 1)).bind fun t19=>some (.nrm,[t19,t17,t27],r_2.2.2)) fun x_1=>some (x_1,[nth 0 ds,t17,t27],r_2.2.2))
  (some ((.ext 0),[nth 0 ds,t17,nth 2 ds],h_1))
noncomputable def b9E (t0 t1:D) (h:Hp):Option (D × Hp) :=
 (some ((.ptr h.length 0 0:D),a0K h a0d 3 [[.nils,.int .i64 0,.int .i64 0]])).bind fun p4=>(a0w tab a0h t0).bind fun t8=>(a0j tab .lss ty3 t8 (.int .i64 1)).bind fun t9=>(dIf t9
  (((none:Option D)).bind fun t10=>((none:Option D)).bind fun t901=>some (.nrm,([]:List D),p4.2))
  (some (.nrm,([]:List D),p4.2))).bind fun r=>a0z r.1 ((a0a tab a0h t0 (.int .i64 0)).bind fun t12=>(a0c tab r.2.2 a0d t12).bind fun t13=>(some ((.ptr r.2.2.length 0 0:D),a0K r.2.2 a0d 3 [[.nils,.int .i64 0,.int .i64 0]])).bind fun p5=>((a0s tab p5.2 a0d p5.1 t13).bind fun h'=>some ((.und:D),h')).bind fun p904=>((a0B (a9v t0 t1 p5) [.int .i64 1,.any,.any] p904.2).bind fun r_1=>some ((a0v 0 r_1.1),[nth 0 r_1.2.1,nth 1 r_1.2.1,nth 2 r_1.2.1],r_1.2.2)).bind fun r_3=>a0z r_3.1 ((a0c tab r_3.2.2 a0d p5.1).bind fun t32=>((a0s tab r_3.2.2 a0d p4.1 t32).bind fun h'=>some ((.und:D),h')).bind fun p901=>(a0c tab p901.2 a0d p4.1).bind fun d0=>scope h p901.2 (a0i [d0])) fun x_2=>a0H x_2 ((a0c tab r_3.2.2 a0d p4.1).bind fun d0=>scope h r_3.2.2 (a0i [d0]))) fun x=>a0H x ((a0c tab r.2.2 a0d p4.1).bind fun d0=>scope h r.2.2 (a0i [d0]))
theorem c3o (t0 t1:D) (h:Hp):R b0p [t0,t1] h=b9E t0 t1 h :=
 er i45 (by kernel_rfl) (by kernel_rfl)
noncomputable def b9F (t0 t1:D) (h:Hp):Option (D × Hp) :=
 (a1H t0).bind fun t2=>(a1H t1).bind fun t3=>(a0b tab a0d 1 t2).bind fun t5=>(a0c tab h ty3 t5).bind fun t6=>(a0b tab a0d 1 t3).bind fun t7=>(a0c tab h ty3 t7).bind fun t8=>(R c0w [t6,t8] h).bind fun p9=>(a0b tab a0d 0 t2).bind fun t10=>(a0c tab p9.2 a0E t10).bind fun t11=>(a0b tab a0d 0 t3).bind fun t12=>(a0c tab p9.2 a0E t12).bind fun t13=>(R a4Y [t11,t13] p9.2).bind fun p14=>(a0A tab a0V 2 [0,1] [p9.1,p14.1]).bind fun t15=>(R c0v [t15] p14.2).bind fun p16=>chk (a0c tab h a0E t10=some t11)
 (chk (a0c tab h a0E t12=some t13)
 (some (a0i [p16.1],p16.2)))
theorem c3p (t0 t1:D) (h:Hp):R a7U [t0,t1] h=b9F t0 t1 h :=
 er i46 (by kernel_rfl) (by kernel_rfl)
noncomputable def a9w (t0 t1:D) (ds:List D) (h_1:Hp):Option Out :=
 (a0w tab a0h t0).bind fun t18=>(a0j tab .lss ty3 (nth 1 ds) t18).bind fun t19=>dIf t19
  ((a0a tab a0h t0 (nth 1 ds)).bind fun t24=>(a0c tab h_1 a0d t24).bind fun t25=>(a7s 3 t25).bind fun t7=>(a0c tab h_1 a0d t7).bind fun t27=>(a1V R t1 [t27] h_1).bind fun p28=>(dUn .not p28.1).bind fun t29=>(dIf t29
  ((a0c tab p28.2 a0d t7).bind fun t32=>(a0a tab a0h t0 (nth 0 ds)).bind fun t33=>((a0s tab p28.2 a0d t33 t32).bind fun h'=>some ((.und:D),h')).bind fun p904=>(a0j tab .add ty3 (nth 0 ds) (.int .i64 1)).bind fun t35=>some (.nrm,[t35],p904.2))
  (some (.nrm,[nth 0 ds],p28.2))).bind fun r_1=>a0z (a0v 1 r_1.1) ((a0j tab .add ty3 (nth 1 ds) (.int .i64 1)).bind fun t21=>some (.nrm,[nth 0 r_1.2.1,t21,t7,t19,t29],r_1.2.2)) fun x=>some (x,[nth 0 r_1.2.1,nth 1 ds,t7,t19,t29],r_1.2.2))
  (some ((.ext 0),[nth 0 ds,nth 1 ds,nth 2 ds,t19,nth 4 ds],h_1))
noncomputable def b9G (t0 t1:D) (h:Hp):Option (D × Hp) :=
 (R b0s [t0,t1] h).bind fun p10=>(a0j tab .eql ty3 p10.1 (.int .i64 (-1))).bind fun t12=>dIf t12
  (some (a0i [t0],p10.2))
  ((a0j tab .add ty3 p10.1 (.int .i64 1)).bind fun t15=>((a0B (a9w t0 t1) [p10.1,t15,.any,.any,.any] p10.2).bind fun r=>some ((a0v 0 r.1),[nth 0 r.2.1,nth 1 r.2.1,nth 2 r.2.1,nth 3 r.2.1,nth 4 r.2.1],r.2.2)).bind fun r_2=>a0z r_2.1 ((a0y tab a0h true false false [t0,nth 0 r_2.2.1]).bind fun t38=>(a4U tab r_2.2.2 a0h t38).bind fun p903=>(a0y tab a0h false true false [t0,nth 0 r_2.2.1]).bind fun t41=>some (a0i [t41],p903.2)) fun x_1=>a0H x_1 (some (a0i [.nils],r_2.2.2)))
theorem c3q (t0 t1:D) (h:Hp):R b0q [t0,t1] h=b9G t0 t1 h :=
 er i47 (by kernel_rfl) (by kernel_rfl)
noncomputable def b9H (t0 t1:D) (h:Hp):Option (D × Hp) :=
 (a1H t0).bind fun t2=>(a0b tab a0d 0 t2).bind fun t4=>(a0c tab h a0E t4).bind fun t5=>(a0b tab a0d 0 t1).bind fun t6=>(a0c tab h a0E t6).bind fun t7=>(R a4Y [t5,t7] h).bind fun p8=>(a0j tab .eql ty3 p8.1 (.int .i64 0)).bind fun t9=>some (a0i [t9],p8.2)
theorem c3r (t0 t1:D) (h:Hp):R a5d [t0,t1] h=b9H t0 t1 h :=
 er i48 (by kernel_rfl) (by kernel_rfl)
noncomputable def a9j (t0 t1:D) (ds:List D) (h_1:Hp):Option Out :=
 (a0w tab a0E t0).bind fun t8=>(a0j tab .lss ty3 (nth 1 ds) t8).bind fun t9=>(gd t9 true (some (nth 1 ds))).bind fun t11=>(gd t9 true (some t1)).bind fun t12=>(gd t9 true (a0w tab a0E t12)).bind fun t13=>(gd t9 true (a0j tab .lss ty3 t11 t13)).bind fun t14=>(a1g t9 t14 (.bool false)).bind fun t15=>dIf t15
  ((a0a tab a0E t0 (nth 1 ds)).bind fun t20=>(a0c tab h_1 ty9 t20).bind fun t21=>(a0a tab a0E t1 (nth 1 ds)).bind fun t24=>(a0c tab h_1 ty9 t24).bind fun t25=>(a0j tab .lss ty9 t21 t25).bind fun t26=>dIf t26
  (some (.ret,[.int .i64 (-1),nth 1 ds,t15,t26,nth 4 ds],h_1))
  ((a0a tab a0E t0 (nth 1 ds)).bind fun t29=>(a0c tab h_1 ty9 t29).bind fun t30=>(a0a tab a0E t1 (nth 1 ds)).bind fun t33=>(a0c tab h_1 ty9 t33).bind fun t34=>(a0j tab .gtr ty9 t30 t34).bind fun t35=>dIf t35
  (some (.ret,[.int .i64 1,nth 1 ds,t15,t26,t35],h_1))
  ((a0j tab .add ty3 (nth 1 ds) (.int .i64 1)).bind fun t17=>some (.nrm,[nth 0 ds,t17,t15,t26,t35],h_1))))
  (some ((.ext 0),[nth 0 ds,nth 1 ds,t15,nth 3 ds,nth 4 ds],h_1))
noncomputable def b9i (t0 t1:D) (h:Hp):Option (D × Hp) :=
 ((a0B (a9j t0 t1) [.int .i64 0,.int .i64 0,.any,.any,.any] h).bind fun r=>some ((a0v 0 r.1),[nth 0 r.2.1,nth 1 r.2.1,nth 2 r.2.1,nth 3 r.2.1,nth 4 r.2.1],r.2.2)).bind fun r_1=>a0z r_1.1 ((a0w tab a0E t0).bind fun t38=>(a0w tab a0E t1).bind fun t40=>(a0j tab .lss ty3 t38 t40).bind fun t41=>dIf t41
  (some (a0i [.int .i64 (-1)],r_1.2.2))
  ((a0w tab a0E t0).bind fun t44=>(a0w tab a0E t1).bind fun t46=>(a0j tab .gtr ty3 t44 t46).bind fun t47=>dIf t47
  (some (a0i [.int .i64 1],r_1.2.2))
  (some (a0i [.int .i64 0],r_1.2.2)))) fun x=>a0H x (some (a0i [nth 0 r_1.2.1],r_1.2.2))
theorem c2Q (t0 t1:D) (h:Hp):R a5L [t0,t1] h=b9i t0 t1 h :=
 er i50 (by kernel_rfl) (by kernel_rfl)
noncomputable def b4j (t0 t3:D) (ds:List D) (h_1:Hp):Option Out :=
 (a0w tab a0h t0).bind fun t9=>(a0j tab .lss ty3 (nth 0 ds) t9).bind fun t10=>(gd t10 true (some t0)).bind fun t12=>(gd t10 true (some (nth 0 ds))).bind fun t13=>(gd t10 true (a0a tab a0h t12 t13)).bind fun t14=>(gd t10 true (a0b tab a0d 0 t14)).bind fun t15=>(gd t10 true (a0c tab h_1 a0E t15)).bind fun t16=>(gd t10 true (a0b tab a0d 0 t3)).bind fun t17=>(gd t10 true (a0c tab h_1 a0E t17)).bind fun t18=>(gdW t10 true h_1 (R a5L [t16,t18] h_1)).bind fun p19=>(gd t10 true (a0j tab .lss ty3 p19.1 (.int .i64 0))).bind fun t20=>(a1g t10 t20 (.bool false)).bind fun t21=>dIf t21
  ((a0j tab .add ty3 (nth 0 ds) (.int .i64 1)).bind fun t23=>some (.nrm,[t23,t21],p19.2))
  (some ((.ext 0),[nth 0 ds,t21],p19.2))
noncomputable def c2g (t0 t1:D) (h:Hp):Option (D × Hp) :=
 (a1H t1).bind fun t3=>((a0B (b4j t0 t3) [.int .i64 0,.any] h).bind fun r=>some ((a0v 0 r.1),[nth 0 r.2.1,nth 1 r.2.1],r.2.2)).bind fun r_1=>a0z r_1.1 ((a0y tab a0h false true false [t0,nth 0 r_1.2.1]).bind fun t26=>(a0p tab r_1.2.2 a0h a0h (.nils) t26).bind fun p27=>(a0c tab p27.2 a0d t3).bind fun t29=>(a0A tab a0h 1 [0] [t29]).bind fun t30=>(a0p tab p27.2 a0h a0h p27.1 t30).bind fun p31=>(a0y tab a0h true false false [t0,nth 0 r_1.2.1]).bind fun t34=>(a0p tab p31.2 a0h a0h p31.1 t34).bind fun p35=>scope h p35.2 (a0i [p35.1])) fun x=>a0H x (scope h r_1.2.2 (a0i [.nils]))
theorem c6D (t0 t1:D) (h:Hp):R b2y [t0,t1] h=c2g t0 t1 h :=
 er i51 (by kernel_rfl) (by kernel_rfl)
noncomputable def b3Z (t0:D) (ds:List D) (ds_1:List D) (h_2:Hp):Option Out :=
 (a0j tab .gtr ty3 (nth 0 ds_1) (.int .i64 0)).bind fun t18=>(gd t18 true (some t0)).bind fun t20=>(gd t18 true (some (nth 1 ds))).bind fun t21=>(gd t18 true (a0a tab a0t t20 t21)).bind fun t22=>(gd t18 true (a0b tab a0k 1 t22)).bind fun t23=>(gd t18 true (a0c tab h_2 a0V t23)).bind fun t24=>(gd t18 true (a0a tab a0V t24 (.int .i64 0))).bind fun t25=>(gd t18 true (a0c tab h_2 ty3 t25)).bind fun t26=>(gd t18 true (some (nth 0 ds))).bind fun t27=>(gd t18 true (some (nth 0 ds_1))).bind fun t28=>(gd t18 true (a0j tab .sub ty3 t28 (.int .i64 1))).bind fun t29=>(gd t18 true (a0a tab a0t t27 t29)).bind fun t30=>(gd t18 true (a0b tab a0k 1 t30)).bind fun t31=>(gd t18 true (a0c tab h_2 a0V t31)).bind fun t32=>(gd t18 true (a0a tab a0V t32 (.int .i64 0))).bind fun t33=>(gd t18 true (a0c tab h_2 ty3 t33)).bind fun t34=>(gd t18 true (a0j tab .gtr ty3 t26 t34)).bind fun t35=>(gd t18 true (some t35)).bind fun t36=>(gd t36 false (some t0)).bind fun t37=>(gd t36 false (some (nth 1 ds))).bind fun t38=>(gd t36 false (a0a tab a0t t37 t38)).bind fun t39=>(gd t36 false (a0b tab a0k 1 t39)).bind fun t40=>(gd t36 false (a0c tab h_2 a0V t40)).bind fun t41=>(gd t36 false (a0a tab a0V t41 (.int .i64 0))).bind fun t42=>(gd t36 false (a0c tab h_2 ty3 t42)).bind fun t43=>(gd t36 false (some (nth 0 ds))).bind fun t44=>(gd t36 false (some (nth 0 ds_1))).bind fun t45=>(gd t36 false (a0j tab .sub ty3 t45 (.int .i64 1))).bind fun t46=>(gd t36 false (a0a tab a0t t44 t46)).bind fun t47=>(gd t36 false (a0b tab a0k 1 t47)).bind fun t48=>(gd t36 false (a0c tab h_2 a0V t48)).bind fun t49=>(gd t36 false (a0a tab a0V t49 (.int .i64 0))).bind fun t50=>(gd t36 false (a0c tab h_2 ty3 t50)).bind fun t51=>(gd t36 false (a0j tab .eql ty3 t43 t51)).bind fun t52=>(gd t36 false (some t52)).bind fun t53=>(gd t53 true (some t0)).bind fun t54=>(gd t53 true (some (nth 1 ds))).bind fun t55=>(gd t53 true (a0a tab a0t t54 t55)).bind fun t56=>(gd t53 true (a0b tab a0k 0 t56)).bind fun t57=>(gd t53 true (a0c tab h_2 a0E t57)).bind fun t58=>(gd t53 true (some (nth 0 ds))).bind fun t59=>(gd t53 true (some (nth 0 ds_1))).bind fun t60=>(gd t53 true (a0j tab .sub ty3 t60 (.int .i64 1))).bind fun t61=>(gd t53 true (a0a tab a0t t59 t61)).bind fun t62=>(gd t53 true (a0b tab a0k 0 t62)).bind fun t63=>(gd t53 true (a0c tab h_2 a0E t63)).bind fun t64=>(gdW t53 true h_2 (R a5L [t58,t64] h_2)).bind fun p65=>(gd t53 true (a0j tab .lss ty3 p65.1 (.int .i64 0))).bind fun t66=>(gd t36 false (a1g t53 t66 (.bool false))).bind fun t67=>(gd t18 true (a1g t36 (.bool true) t67)).bind fun t68=>(a1g t18 t68 (.bool false)).bind fun t69=>dIf t69
  ((a0j tab .sub ty3 (nth 0 ds_1) (.int .i64 1)).bind fun t71=>some (.nrm,[t71,t69],p65.2))
  (some ((.ext 2),[nth 0 ds_1,t69],p65.2))
noncomputable def b3Y (t0:D) (ds:List D) (h_1:Hp):Option Out :=
 (a0w tab a0t t0).bind fun t11=>(a0j tab .lss ty3 (nth 1 ds) t11).bind fun t12=>dIf t12
  ((a0w tab a0t (nth 0 ds)).bind fun t16=>((a0B (b3Z t0 ds) [t16,nth 5 ds] h_1).bind fun r_1=>some ((a0v 2 r_1.1),[nth 0 r_1.2.1,nth 1 r_1.2.1],r_1.2.2)).bind fun r_2=>a0z r_2.1 ((a0y tab a0t false true false [nth 0 ds,nth 0 r_2.2.1]).bind fun t74=>(a0p tab r_2.2.2 a0t a0t (.nils) t74).bind fun p75=>(a0a tab a0t t0 (nth 1 ds)).bind fun t79=>(a0c tab p75.2 a0k t79).bind fun t80=>(a0A tab a0t 1 [0] [t80]).bind fun t81=>(a0p tab p75.2 a0t a0t p75.1 t81).bind fun p82=>(a0y tab a0t true false false [nth 0 ds,nth 0 r_2.2.1]).bind fun t85=>(a0p tab p82.2 a0t a0t p82.1 t85).bind fun p86=>(a0j tab .add ty3 (nth 1 ds) (.int .i64 1)).bind fun t14=>some (.nrm,[p86.1,t14,nth 0 r_2.2.1,p75.1,t12,nth 1 r_2.2.1],p86.2)) fun x=>a0z (a0v 1 x) ((a0j tab .add ty3 (nth 1 ds) (.int .i64 1)).bind fun t14_1=>some (.nrm,[nth 0 ds,t14_1,nth 0 r_2.2.1,nth 3 ds,t12,nth 1 r_2.2.1],r_2.2.2)) fun x_1=>some (x_1,[nth 0 ds,nth 1 ds,nth 0 r_2.2.1,nth 3 ds,t12,nth 1 r_2.2.1],r_2.2.2))
  (some ((.ext 0),[nth 0 ds,nth 1 ds,nth 2 ds,nth 3 ds,t12,nth 5 ds],h_1))
noncomputable def c1U (t0 t1:D) (h:Hp):Option (D × Hp) :=
 ((a0B (b3Y t0) [.nils,.int .i64 0,.any,.any,.any,.any] h).bind fun r=>some ((a0v 0 r.1),[nth 0 r.2.1,nth 1 r.2.1,nth 2 r.2.1,nth 3 r.2.1,nth 4 r.2.1,nth 5 r.2.1],r.2.2)).bind fun r_3=>a0z r_3.1 ((b4K t1 (.int .i64 0)).bind fun t89=>(a0w tab a0t (nth 0 r_3.2.1)).bind fun t91=>(b1o t89 t91).bind fun t92=>(a0y tab a0t false true false [nth 0 r_3.2.1,t92]).bind fun t93=>scope h r_3.2.2 (a0i [t93])) fun x_2=>a0H x_2 (scope h r_3.2.2 (a0i [.nils]))
theorem c6r (t0 t1:D) (h:Hp):R b5Y [t0,t1] h=c1U t0 t1 h :=
 er i52 (by kernel_rfl) (by kernel_rfl)
noncomputable def b9j (t0:D) (h:Hp):Option (D × Hp) :=
 (a0A tab a0E 4 [0,1,2,3] [.str [108,101,118,101,108],.str [109,115],.str [117,115,101,114],.str [99,111,100,101]]).bind fun t3=>(R a3S [t0,.int .i64 4] h).bind fun p5=>(a0a tab a0E t3 p5.1).bind fun t6=>(a0c tab p5.2 ty9 t6).bind fun t7=>some (a0i [t7],p5.2)
theorem c2R (t0:D) (h:Hp):R b2q [t0] h=b9j t0 h :=
 er i53 (by kernel_rfl) (by kernel_rfl)
noncomputable def b1t (t0 t1:D) (ds:List D) (ds_1:List D) (h_2:Hp):Option Out :=
 (a0j tab .gtr ty3 (nth 2 ds_1) (.int .i64 0)).bind fun t24=>dIf t24
  ((a0j tab .add ty3 (.int .i64 5) (nth 1 ds)).bind fun t30=>(R c1M [t0,t1,t30,nth 1 ds_1] h_2).bind fun p32=>(a7s 11 p32.1).bind fun t12=>(a0c tab p32.2 a2j t12).bind fun t34=>(a0A tab a2r 1 [0] [t34]).bind fun t35=>(a0p tab p32.2 a2r a2r (nth 0 ds_1) t35).bind fun p36=>(a0b tab a2j 1 t12).bind fun t37=>(a0b tab a0R 3 t37).bind fun t38=>(a0c tab p36.2 ty3 t38).bind fun t39=>(a0j tab .sub ty3 (nth 2 ds_1) (.int .i64 1)).bind fun t26=>some (.nrm,[p36.1,t39,t26,t12,t24],p36.2))
  (some ((.ext 2),[nth 0 ds_1,nth 1 ds_1,nth 2 ds_1,nth 3 ds_1,t24],h_2))
noncomputable def b5I (t0 t1 t2:D) (ds:List D) (h_1:Hp):Option Out :=
 (R a3S [t0,.int .i64 3] h_1).bind fun p15=>(a0j tab .leq ty3 (nth 1 ds) p15.1).bind fun t16=>dIf t16
  ((a0j tab .add ty3 t2 (.int .i64 1)).bind fun t21=>(R a3S [t0,t21] p15.2).bind fun p22=>((a0B (b1t t0 t1 ds) [.nils,.int .i64 0,p22.1,nth 5 ds,nth 7 ds] p22.2).bind fun r_1=>some ((a0v 2 r_1.1),[nth 0 r_1.2.1,nth 1 r_1.2.1,nth 2 r_1.2.1,nth 3 r_1.2.1,nth 4 r_1.2.1],r_1.2.2)).bind fun r_2=>a0z r_2.1 ((a0A tab a3C 1 [0] [nth 0 r_2.2.1]).bind fun t42=>(a0p tab r_2.2.2 a3C a3C (nth 0 ds) t42).bind fun p43=>(a0j tab .add ty3 (nth 1 ds) (.int .i64 1)).bind fun t18=>some (.nrm,[p43.1,t18,nth 0 r_2.2.1,nth 1 r_2.2.1,nth 2 r_2.2.1,nth 3 r_2.2.1,t16,nth 4 r_2.2.1],p43.2)) fun x=>a0z (a0v 1 x) ((a0j tab .add ty3 (nth 1 ds) (.int .i64 1)).bind fun t18_1=>some (.nrm,[nth 0 ds,t18_1,nth 0 r_2.2.1,nth 1 r_2.2.1,nth 2 r_2.2.1,nth 3 r_2.2.1,t16,nth 4 r_2.2.1],r_2.2.2)) fun x_1=>some (x_1,[nth 0 ds,nth 1 ds,nth 0 r_2.2.1,nth 1 r_2.2.1,nth 2 r_2.2.1,nth 3 r_2.2.1,t16,nth 4 r_2.2.1],r_2.2.2))
  (some ((.ext 0),[nth 0 ds,nth 1 ds,nth 2 ds,nth 3 ds,nth 4 ds,nth 5 ds,t16,nth 7 ds],p15.2))
noncomputable def F71 (t0 t1 t2:D) (h:Hp):Option (D × Hp) :=
 ((a0B (b5I t0 t1 t2) [.nils,.int .i64 0,.any,.any,.any,.any,.any,.any] h).bind fun r=>some ((a0v 0 r.1),[nth 0 r.2.1,nth 1 r.2.1,nth 2 r.2.1,nth 3 r.2.1,nth 4 r.2.1,nth 5 r.2.1,nth 6 r.2.1,nth 7 r.2.1],r.2.2)).bind fun r_3=>a0z r_3.1 (scope h r_3.2.2 (a0i [nth 0 r_3.2.1])) fun x_2=>a0H x_2 (scope h r_3.2.2 (a0i [.nils]))
theorem e71 (t0 t1 t2:D) (h:Hp):R c0u [t0,t1,t2] h=F71 t0 t1 t2 h :=
 er i54 (by kernel_rfl) (by kernel_rfl)
noncomputable def a5x (t0 t3:D) (ds:List D) (h_1:Hp):Option Out :=
 (a0j tab .gtr ty3 (nth 0 ds) (.int .i64 0)).bind fun t10=>(gd t10 true (a0c tab h_1 a0R t3)).bind fun t12=>(gd t10 true (some t0)).bind fun t13=>(gd t10 true (some (nth 0 ds))).bind fun t14=>(gd t10 true (a0j tab .sub ty3 t14 (.int .i64 1))).bind fun t15=>(gd t10 true (a0a tab a3Y t13 t15)).bind fun t16=>(gd t10 true (a0c tab h_1 a0R t16)).bind fun t17=>(gdW t10 true h_1 (R c3K [t12,t17] h_1)).bind fun p18=>(a1g t10 p18.1 (.bool false)).bind fun t19=>dIf t19
  ((a0j tab .sub ty3 (nth 0 ds) (.int .i64 1)).bind fun t21=>some (.nrm,[t21,t19],p18.2))
  (some ((.ext 0),[nth 0 ds,t19],p18.2))
noncomputable def F72 (t0 t1:D) (h:Hp):Option (D × Hp) :=
 (a1H t1).bind fun t3=>(a0w tab a3Y t0).bind fun t8=>((a0B (a5x t0 t3) [t8,.any] h).bind fun r=>some ((a0v 0 r.1),[nth 0 r.2.1,nth 1 r.2.1],r.2.2)).bind fun r_1=>a0z r_1.1 ((a0y tab a3Y false true false [t0,nth 0 r_1.2.1]).bind fun t24=>(a0p tab r_1.2.2 a3Y a3Y (.nils) t24).bind fun p25=>(a0c tab p25.2 a0R t3).bind fun t27=>(a0A tab a3Y 1 [0] [t27]).bind fun t28=>(a0p tab p25.2 a3Y a3Y p25.1 t28).bind fun p29=>(a0y tab a3Y true false false [t0,nth 0 r_1.2.1]).bind fun t32=>(a0p tab p29.2 a3Y a3Y p29.1 t32).bind fun p33=>scope h p33.2 (a0i [p33.1])) fun x=>a0H x (scope h r_1.2.2 (a0i [.nils]))
theorem e72 (t0 t1:D) (h:Hp):R c1K [t0,t1] h=F72 t0 t1 h :=
 er i55 (by kernel_rfl) (by kernel_rfl)
noncomputable def F57 (t0:D) (h:Hp):Option (D × Hp) :=
 (a1E tab t0).bind fun t4=>(a0b tab a3s 1 t4).bind fun t5=>(a0c tab h ty3 t5).bind fun t6=>(a1E tab t0).bind fun t8=>(a0b tab a3s 0 t8).bind fun t9=>(a0c tab h a5m t9).bind fun t10=>(a0w tab a5m t10).bind fun t11=>(a0j tab .lss ty3 t6 t11).bind fun t12=>some (a0i [t12],h)
theorem e57 (t0:D) (h:Hp):R c1J [t0] h=F57 t0 h :=
 er i56 (by kernel_rfl) (by kernel_rfl)
noncomputable def b9k (t0 t1 t2 t3:D) (h:Hp):Option (D × Hp) :=
 (a1H t3).bind fun t7=>(a0c tab h a0R t7).bind fun t13=>(R b0f [t1,t2,t13] h).bind fun p14=>(a0A tab a0S 1 [0] [p14.1]).bind fun t15=>(R b0e [t2,t0,t15] p14.2).bind fun p16=>some (a0i [p16.1],p16.2)
theorem c2S (t0 t1 t2 t3:D) (h:Hp):R b2r [t0,t1,t2,t3] h=b9k t0 t1 t2 t3 h :=
 er i57 (by kernel_rfl) (by kernel_rfl)
noncomputable def a6n (t0 t1 t2 t6m:D) (ds:List D) (h_1:Hp):Option Out :=
 (a0j tab .leq ty3 (nth 1 ds) t1).bind fun t13=>dIf t13
  ((R a5f [t0,nth 0 ds,nth 1 ds,t2] h_1).bind fun p18=>(a0j tab .add ty3 (nth 1 ds) t6m).bind fun t22=>some (.nrm,[nth 1 ds,t22,t13],p18.2))
  (some ((.ext 0),[nth 0 ds,nth 1 ds,t13],h_1))
noncomputable def a9x (t0 t1 t2:D) (ds_1:List D) (ds_2:List D) (h_3:Hp):Option Out :=
 (a0j tab .leq ty3 (nth 1 ds_2) t1).bind fun t35=>dIf t35
  ((a0j tab .add ty3 (nth 0 ds_2) (nth 0 ds_1)).bind fun t40=>(R a4p [t0,nth 0 ds_2,t40,nth 1 ds_2,t2] h_3).bind fun p43=>(a0j tab .mul ty3 (.int .i64 2) (nth 0 ds_1)).bind fun t47=>(a0j tab .add ty3 (nth 1 ds_2) t47).bind fun t48=>some (.nrm,[nth 1 ds_2,t48,t35],p43.2))
  (some ((.ext 4),[nth 0 ds_2,nth 1 ds_2,t35],h_3))
noncomputable def a6o (t0 t1 t2:D) (ds_1:List D) (h_2:Hp):Option Out :=
 (a0j tab .lss ty3 (nth 0 ds_1) t1).bind fun t30=>dIf t30
  ((a0j tab .mul ty3 (.int .i64 2) (nth 0 ds_1)).bind fun t32=>((a0B (a9x t0 t1 t2 ds_1) [.int .i64 0,t32,nth 5 ds_1] h_2).bind fun r_3=>some ((a0v 4 r_3.1),[nth 0 r_3.2.1,nth 1 r_3.2.1,nth 2 r_3.2.1],r_3.2.2)).bind fun r_4=>a0z r_4.1 ((a0j tab .add ty3 (nth 0 r_4.2.1) (nth 0 ds_1)).bind fun t51=>(a0j tab .lss ty3 t51 t1).bind fun t54=>(dIf t54
  ((R a4p [t0,nth 0 r_4.2.1,t51,t1,t2] r_4.2.2).bind fun p60=>some (.nrm,([]:List D),p60.2))
  (some (.nrm,([]:List D),r_4.2.2))).bind fun r_5=>a0z r_5.1 ((a0j tab .mul ty3 (nth 0 ds_1) (.int .i64 2)).bind fun t62=>some (.nrm,[t62,nth 0 r_4.2.1,nth 1 r_4.2.1,t51,t30,nth 2 r_4.2.1,t54],r_5.2.2)) fun x_2=>some ((a0v 3 x_2),[nth 0 ds_1,nth 0 r_4.2.1,nth 1 r_4.2.1,t51,t30,nth 2 r_4.2.1,t54],r_5.2.2)) fun x_1=>some ((a0v 3 x_1),[nth 0 ds_1,nth 0 r_4.2.1,nth 1 r_4.2.1,nth 3 ds_1,t30,nth 2 r_4.2.1,nth 6 ds_1],r_4.2.2))
  (some ((.ext 2),[nth 0 ds_1,nth 1 ds_1,nth 2 ds_1,nth 3 ds_1,t30,nth 5 ds_1,nth 6 ds_1],h_2))
noncomputable def b6N (t0 t1 t2:D) (h:Hp):Option (D × Hp) :=
 ((a0B (a6n t0 t1 t2 (.int .i64 20)) [.int .i64 0,.int .i64 20,.any] h).bind fun r=>some ((a0v 0 r.1),[nth 0 r.2.1,nth 1 r.2.1,nth 2 r.2.1],r.2.2)).bind fun r_1=>a0z r_1.1 ((R a5f [t0,nth 0 r_1.2.1,t1,t2] r_1.2.2).bind fun p27=>((a0B (a6o t0 t1 t2) [.int .i64 20,nth 0 r_1.2.1,nth 1 r_1.2.1,.any,.any,.any,.any] p27.2).bind fun r_2=>some ((a0v 2 r_2.1),[nth 0 r_2.2.1,nth 1 r_2.2.1,nth 2 r_2.2.1,nth 3 r_2.2.1,nth 4 r_2.2.1,nth 5 r_2.2.1,nth 6 r_2.2.1],r_2.2.2)).bind fun r_6=>a0H r_6.1 (some (a0i [],r_6.2.2))) fun x=>a0H x (some (a0i [],r_1.2.2))
theorem c0q (t0 t1 t2:D) (h:Hp):R b0r [t0,t1,t2] h=b6N t0 t1 t2 h :=
 er i58 (by kernel_rfl) (by kernel_rfl)
noncomputable def F99 (t0:D) (h:Hp):Option (D × Hp) :=
 (a0j tab .neq ty3 t0 t0).bind fun t5=>some (a0i [t5],h)
theorem e99 (t0:D) (h:Hp):R c1P [t0] h=F99 t0 h :=
 er i59 (by kernel_rfl) (by kernel_rfl)
noncomputable def a9l (t1 t9m t10:D) (ds:List D) (h_1:Hp):Option Out :=
 (a0j tab .lss ty3 (nth 5 ds) t10).bind fun t12=>dIf t12
  ((a0a tab a0E t9m (nth 5 ds)).bind fun t14=>(a0c tab h_1 ty9 t14).bind fun t15=>(a0w tab a0E t1).bind fun t18=>(a0j tab .geq ty3 (nth 5 ds) t18).bind fun t19=>dIf t19
  (some (.ret,[.int .i64 1,nth 5 ds,t15,nth 3 ds,nth 4 ds,nth 5 ds,t12,t19,nth 8 ds],h_1))
  ((a0a tab a0E t1 (nth 5 ds)).bind fun t22=>(a0c tab h_1 ty9 t22).bind fun t23=>(R c3L [t15,t23] h_1).bind fun p26=>(a0j tab .neq ty3 p26.1 (.int .i64 0)).bind fun t28=>dIf t28
  (some (.ret,[p26.1,nth 5 ds,t15,t23,p26.1,nth 5 ds,t12,t19,t28],p26.2))
  ((a0j tab .add ty3 (nth 5 ds) (.int .i64 1)).bind fun t30=>some (.nrm,[nth 0 ds,nth 5 ds,t15,t23,p26.1,t30,t12,t19,t28],p26.2))))
  (some ((.ext 0),[nth 0 ds,nth 1 ds,nth 2 ds,nth 3 ds,nth 4 ds,nth 5 ds,t12,nth 7 ds,nth 8 ds],h_1))
noncomputable def b9l (t0 t1:D) (h:Hp):Option (D × Hp) :=
 (a0w tab a0E t0).bind fun t10=>((a0B (a9l t1 t0 t10) [.int .i64 0,.any,.any,.any,.any,.int .i64 0,.any,.any,.any] h).bind fun r=>some ((a0v 0 r.1),[nth 0 r.2.1,nth 1 r.2.1,nth 2 r.2.1,nth 3 r.2.1,nth 4 r.2.1,nth 5 r.2.1,nth 6 r.2.1,nth 7 r.2.1,nth 8 r.2.1],r.2.2)).bind fun r_1=>a0z r_1.1 ((a0w tab a0E t0).bind fun t32=>(a0w tab a0E t1).bind fun t34=>(a0j tab .lss ty3 t32 t34).bind fun t35=>dIf t35
  (some (a0i [.int .i64 (-1)],r_1.2.2))
  (some (a0i [.int .i64 0],r_1.2.2))) fun x=>a0H x (some (a0i [nth 0 r_1.2.1],r_1.2.2))
theorem c2T (t0 t1:D) (h:Hp):R b2s [t0,t1] h=b9l t0 t1 h :=
 er i60 (by kernel_rfl) (by kernel_rfl)
noncomputable def a6d (t0 t1 t2 t6m:D) (ds:List D) (h_1:Hp):Option Out :=
 (a0j tab .leq ty3 (nth 1 ds) t1).bind fun t13=>dIf t13
  ((R a4Z [t0,nth 0 ds,nth 1 ds,t2] h_1).bind fun p18=>(a0j tab .add ty3 (nth 1 ds) t6m).bind fun t22=>some (.nrm,[nth 1 ds,t22,t13],p18.2))
  (some ((.ext 0),[nth 0 ds,nth 1 ds,t13],h_1))
noncomputable def a9k (t0 t1 t2:D) (ds_1:List D) (ds_2:List D) (h_3:Hp):Option Out :=
 (a0j tab .leq ty3 (nth 1 ds_2) t1).bind fun t35=>dIf t35
  ((a0j tab .add ty3 (nth 0 ds_2) (nth 0 ds_1)).bind fun t40=>(R a4o [t0,nth 0 ds_2,t40,nth 1 ds_2,t2] h_3).bind fun p43=>(a0j tab .mul ty3 (.int .i64 2) (nth 0 ds_1)).bind fun t47=>(a0j tab .add ty3 (nth 1 ds_2) t47).bind fun t48=>some (.nrm,[nth 1 ds_2,t48,t35],p43.2))
  (some ((.ext 4),[nth 0 ds_2,nth 1 ds_2,t35],h_3))
noncomputable def a6e (t0 t1 t2:D) (ds_1:List D) (h_2:Hp):Option Out :=
 (a0j tab .lss ty3 (nth 0 ds_1) t1).bind fun t30=>dIf t30
  ((a0j tab .mul ty3 (.int .i64 2) (nth 0 ds_1)).bind fun t32=>((a0B (a9k t0 t1 t2 ds_1) [.int .i64 0,t32,nth 5 ds_1] h_2).bind fun r_3=>some ((a0v 4 r_3.1),[nth 0 r_3.2.1,nth 1 r_3.2.1,nth 2 r_3.2.1],r_3.2.2)).bind fun r_4=>a0z r_4.1 ((a0j tab .add ty3 (nth 0 r_4.2.1) (nth 0 ds_1)).bind fun t51=>(a0j tab .lss ty3 t51 t1).bind fun t54=>(dIf t54
  ((R a4o [t0,nth 0 r_4.2.1,t51,t1,t2] r_4.2.2).bind fun p60=>some (.nrm,([]:List D),p60.2))
  (some (.nrm,([]:List D),r_4.2.2))).bind fun r_5=>a0z r_5.1 ((a0j tab .mul ty3 (nth 0 ds_1) (.int .i64 2)).bind fun t62=>some (.nrm,[t62,nth 0 r_4.2.1,nth 1 r_4.2.1,t51,t30,nth 2 r_4.2.1,t54],r_5.2.2)) fun x_2=>some ((a0v 3 x_2),[nth 0 ds_1,nth 0 r_4.2.1,nth 1 r_4.2.1,t51,t30,nth 2 r_4.2.1,t54],r_5.2.2)) fun x_1=>some ((a0v 3 x_1),[nth 0 ds_1,nth 0 r_4.2.1,nth 1 r_4.2.1,nth 3 ds_1,t30,nth 2 r_4.2.1,nth 6 ds_1],r_4.2.2))
  (some ((.ext 2),[nth 0 ds_1,nth 1 ds_1,nth 2 ds_1,nth 3 ds_1,t30,nth 5 ds_1,nth 6 ds_1],h_2))
noncomputable def b6H (t0 t1 t2:D) (h:Hp):Option (D × Hp) :=
 ((a0B (a6d t0 t1 t2 (.int .i64 20)) [.int .i64 0,.int .i64 20,.any] h).bind fun r=>some ((a0v 0 r.1),[nth 0 r.2.1,nth 1 r.2.1,nth 2 r.2.1],r.2.2)).bind fun r_1=>a0z r_1.1 ((R a4Z [t0,nth 0 r_1.2.1,t1,t2] r_1.2.2).bind fun p27=>((a0B (a6e t0 t1 t2) [.int .i64 20,nth 0 r_1.2.1,nth 1 r_1.2.1,.any,.any,.any,.any] p27.2).bind fun r_2=>some ((a0v 2 r_2.1),[nth 0 r_2.2.1,nth 1 r_2.2.1,nth 2 r_2.2.1,nth 3 r_2.2.1,nth 4 r_2.2.1,nth 5 r_2.2.1,nth 6 r_2.2.1],r_2.2.2)).bind fun r_6=>a0H r_6.1 (some (a0i [],r_6.2.2))) fun x=>a0H x (some (a0i [],r_1.2.2))
theorem c0m (t0 t1 t2:D) (h:Hp):R b0d [t0,t1,t2] h=b6H t0 t1 t2 h :=
 er i62 (by kernel_rfl) (by kernel_rfl)
noncomputable def a9p (ds:List D) (h_1:Hp):Option Out :=
 (a0j tab .rem a4u (nth 0 ds) (.int .u64 10)).bind fun t12=>(a0j tab .add a4u (.int .u64 48) t12).bind fun t13=>(a1B tab a4u ty5 t13).bind fun t14=>(a0A tab a5m 1 [0] [t14]).bind fun t15=>(a0p tab h_1 a5m a5m t15 (nth 1 ds)).bind fun p17=>(a0j tab .quo a4u (nth 0 ds) (.int .u64 10)).bind fun t19=>(a0j tab .eql a4u t19 (.int .u64 0)).bind fun t21=>dIf t21
  (some ((.ext 0),[t19,p17.1,t21],p17.2))
  (some (.nrm,[t19,p17.1,t21],p17.2))
noncomputable def b9t (t0:D) (h:Hp):Option (D × Hp) :=
 (a1B tab ty3 a4u t0).bind fun t6=>(a0j tab .lss ty3 t0 (.int .i64 0)).bind fun t8=>(dIf t8
  ((dUn .neg t6).bind fun t10=>some (.nrm,[t10],h))
  (some (.nrm,[t6],h))).bind fun r=>a0z r.1 (((a0B (a9p) [nth 0 r.2.1,.nils,.any] r.2.2).bind fun r_1=>some ((a0v 0 r_1.1),[nth 0 r_1.2.1,nth 1 r_1.2.1,nth 2 r_1.2.1],r_1.2.2)).bind fun r_2=>a0z r_2.1 ((a0j tab .lss ty3 t0 (.int .i64 0)).bind fun t23=>(dIf t23
  ((a0A tab a5m 1 [0] [.int .u8 45]).bind fun t24=>(a0p tab r_2.2.2 a5m a5m t24 (nth 1 r_2.2.1)).bind fun p26=>some (.nrm,[p26.1],p26.2))
  (some (.nrm,[nth 1 r_2.2.1],r_2.2.2))).bind fun r_3=>a0z r_3.1 ((a7E r_3.2.2 (nth 0 r_3.2.1)).bind fun t28=>scope h r_3.2.2 (a0i [t28])) fun x_2=>a0H x_2 (scope h r_3.2.2 (a0i [.str []]))) fun x_1=>a0H x_1 (scope h r_2.2.2 (a0i [.str []]))) fun x=>a0H x (scope h r.2.2 (a0i [.str []]))
theorem c3b (t0:D) (h:Hp):R a5M [t0] h=b9t t0 h :=
 er i63 (by kernel_rfl) (by kernel_rfl)
noncomputable def a7m (t0 t1:D) (ds:List D) (h_1:Hp):Option Out :=
 (a0w tab a5r t0).bind fun t9=>(a0j tab .lss ty3 (nth 2 ds) t9).bind fun t10=>dIf t10
  ((a0a tab a5r t0 (nth 2 ds)).bind fun t15=>(a0b tab a3B 0 t15).bind fun t16=>(a0c tab h_1 ty9 t16).bind fun t17=>(a0j tab .eql ty9 t17 t1).bind fun t19=>dIf t19
  ((a0a tab a5r t0 (nth 2 ds)).bind fun t22=>(a0b tab a3B 1 t22).bind fun t23=>(a0c tab h_1 ty9 t23).bind fun t24=>some (.ret,[t24,.bool true,nth 2 ds,t10,t19],h_1))
  ((a0j tab .add ty3 (nth 2 ds) (.int .i64 1)).bind fun t12=>some (.nrm,[nth 0 ds,nth 1 ds,t12,t10,t19],h_1)))
  (some ((.ext 0),[nth 0 ds,nth 1 ds,nth 2 ds,t10,nth 4 ds],h_1))
noncomputable def F76 (t0 t1:D) (h:Hp):Option (D × Hp) :=
 ((a0B (a7m t0 t1) [.str [],.bool false,.int .i64 0,.any,.any] h).bind fun r=>some ((a0v 0 r.1),[nth 0 r.2.1,nth 1 r.2.1,nth 2 r.2.1,nth 3 r.2.1,nth 4 r.2.1],r.2.2)).bind fun r_1=>a0z r_1.1 (some (a0i [.str [],.bool false],r_1.2.2)) fun x=>a0H x (some (a0i [nth 0 r_1.2.1,nth 1 r_1.2.1],r_1.2.2))
theorem e76 (t0 t1:D) (h:Hp):R c3J [t0,t1] h=F76 t0 t1 h :=
 er i64 (by kernel_rfl) (by kernel_rfl)
noncomputable def a9y (t0 t1 t7:D) (ds:List D) (h_1:Hp):Option Out :=
 (a0j tab .lss ty3 (nth 2 ds) t7).bind fun t9=>dIf t9
  ((a0a tab a0h t0 (nth 2 ds)).bind fun t14=>(a0c tab h_1 a0d t14).bind fun t15=>(a1V R t1 [t15] h_1).bind fun p16=>dIf p16.1
  (some (.ret,[nth 2 ds,nth 2 ds,nth 2 ds,t9,p16.1],p16.2))
  ((a0j tab .add ty3 (nth 2 ds) (.int .i64 1)).bind fun t18=>some (.nrm,[nth 0 ds,nth 2 ds,t18,t9,p16.1],p16.2)))
  (some ((.ext 0),[nth 0 ds,nth 1 ds,nth 2 ds,t9,nth 4 ds],h_1))
noncomputable def b9I (t0 t1:D) (h:Hp):Option (D × Hp) :=
 (a0w tab a0h t0).bind fun t7=>((a0B (a9y t0 t1 t7) [.int .i64 0,.any,.int .i64 0,.any,.any] h).bind fun r=>some ((a0v 0 r.1),[nth 0 r.2.1,nth 1 r.2.1,nth 2 r.2.1,nth 3 r.2.1,nth 4 r.2.1],r.2.2)).bind fun r_1=>a0z r_1.1 (some (a0i [.int .i64 (-1)],r_1.2.2)) fun x=>a0H x (some (a0i [nth 0 r_1.2.1],r_1.2.2))
theorem c3s (t0 t1:D) (h:Hp):R b0s [t0,t1] h=b9I t0 t1 h :=
 er i65 (by kernel_rfl) (by kernel_rfl)
noncomputable def b5J (t0:D) (p9:D × Hp) (ds:List D) (h_1:Hp):Option Out :=
 (a0j tab .gtr ty3 (nth 1 ds) (.int .i64 0)).bind fun t24=>dIf t24
  ((R c1N [t0] h_1).bind fun p28=>(a0w tab ty9 p28.1).bind fun t30=>(a0j tab .add ty3 t30 (.int .i64 1)).bind fun t31=>(R a3S [t0,.int .i64 2] p28.2).bind fun p33=>(a0j tab .add ty3 t31 p33.1).bind fun t34=>(a0b tab a0R 4 p9.1).bind fun t35=>(a0c tab p33.2 a8s t35).bind fun t36=>(a0P tab b3X [0,1,2] [nth 0 ds,t34,p28.1]).bind fun t40=>(a0A tab a8s 1 [0] [t40]).bind fun t41=>(a0p tab p33.2 a8s a8s t36 t41).bind fun p42=>(a0b tab a0R 4 p9.1).bind fun t43=>((a0s tab p42.2 a8s t43 p42.1).bind fun h'=>some ((.und:D),h')).bind fun p909=>(a0j tab .add ty3 (nth 0 ds) t34).bind fun t46=>(a0j tab .sub ty3 (nth 1 ds) (.int .i64 1)).bind fun t26=>some (.nrm,[t46,t26,p28.1,t34,t24],p909.2))
  (some ((.ext 0),[nth 0 ds,nth 1 ds,nth 2 ds,nth 3 ds,t24],h_1))
noncomputable def b5K (p9:D × Hp) (ds_1:List D) (h_2:Hp):Option Out :=
 (a0b tab a0R 4 p9.1).bind fun t53=>(a0c tab h_2 a8s t53).bind fun t54=>(a0w tab a8s t54).bind fun t55=>(a0j tab .lss ty3 (nth 0 ds_1) t55).bind fun t56=>dIf t56
  ((a0b tab a0R 4 p9.1).bind fun t59=>(a0c tab h_2 a8s t59).bind fun t60=>(a0a tab a8s t60 (nth 0 ds_1)).bind fun t62=>(a0b tab b3X 2 t62).bind fun t63=>((a0s tab h_2 ty9 t63 (.str [])).bind fun h'=>some ((.und:D),h')).bind fun p905_1=>(a0j tab .add ty3 (nth 0 ds_1) (.int .i64 1)).bind fun t58=>some (.nrm,[t58,t56],p905_1.2))
  (some ((.ext 2),[nth 0 ds_1,t56],h_2))
noncomputable def F84 (t0 t1 t2 t3:D) (h:Hp):Option (D × Hp) :=
 (some ((.ptr h.length 0 0:D),a0K h a2j 11 [[.str [],.int .i64 0,.int .i64 0,.int .i64 0,.int .i64 0,.nils,.int .i64 0,.int .i64 0,.str [],.str [],.nils]])).bind fun p8=>(a0P tab a0R [0,1,2] [t1,t2,t3]).bind fun t18=>(some ((.ptr p8.2.length 0 0:D),a0K p8.2 a0R 10 [[.int .i64 0,.int .i64 0,.int .i64 0,.int .i64 0,.nils,.int .i64 0,.int .i64 0,.str [],.str [],.nils]])).bind fun p9=>((a0s tab p9.2 a0R p9.1 t18).bind fun h'=>some ((.und:D),h')).bind fun p905=>(R a3S [t0,.int .i64 3] p905.2).bind fun p21=>(a0j tab .add ty3 (.int .i64 1) p21.1).bind fun t22=>((a0B (b5J t0 p9) [t3,t22,.any,.any,.any] p21.2).bind fun r=>some ((a0v 0 r.1),[nth 0 r.2.1,nth 1 r.2.1,nth 2 r.2.1,nth 3 r.2.1,nth 4 r.2.1],r.2.2)).bind fun r_1=>a0z r_1.1 ((a0b tab a0R 3 p9.1).bind fun t48=>((a0s tab r_1.2.2 ty3 t48 (nth 0 r_1.2.1)).bind fun h'=>some ((.und:D),h')).bind fun p902=>(R a3S [t0,.int .i64 5] p902.2).bind fun p50=>(a0j tab .eql ty3 p50.1 (.int .i64 4)).bind fun t51=>dIf t51
  (((a0B (b5K p9) [.int .i64 0,.any] p50.2).bind fun r_2=>some ((a0v 2 r_2.1),[nth 0 r_2.2.1,nth 1 r_2.2.1],r_2.2.2)).bind fun r_3=>a0z r_3.1 ((a0A tab a0E 3 [0,1,2] [.str [115,97,109,112,108,101],.str [100,114,111,112],.str [116,111,111,45,108,111,110,103]]).bind fun t64=>(R a3S [t0,.int .i64 3] r_3.2.2).bind fun p66=>(a0a tab a0E t64 p66.1).bind fun t67=>(a0c tab p66.2 ty9 t67).bind fun t68=>(a0c tab p66.2 a0R p9.1).bind fun t69=>(a0P tab a2j [0,1] [t68,t69]).bind fun t70=>chk (a0c tab r_3.2.2 a0R p9.1=some t69)
 (((a0s tab p66.2 a2j p8.1 t70).bind fun h'=>some ((.und:D),h')).bind fun p907=>(a0c tab p907.2 a2j p8.1).bind fun d0=>scope h p907.2 (a0i [d0]))) fun x_1=>a0z x_1 ((R c1H [t0] r_3.2.2).bind fun p72=>(R c1O [t0] p72.2).bind fun p74=>(a0b tab a0R 5 p9.1).bind fun t75=>((a0s tab p74.2 ty3 t75 p72.1).bind fun h'=>some ((.und:D),h')).bind fun p905_2=>(a0b tab a0R 6 p9.1).bind fun t76=>((a0s tab p905_2.2 ty3 t76 p74.1).bind fun h'=>some ((.und:D),h')).bind fun p907_1=>(a0A tab a0E 4 [0,1,2,3] [.str [116,49],.str [116,50],.str [],.str [49,58,50,58,48]]).bind fun t77=>(R a3S [t0,.int .i64 4] p907_1.2).bind fun p79=>(a0a tab a0E t77 p79.1).bind fun t80=>(a0c tab p79.2 ty9 t80).bind fun t81=>(a0A tab a0E 2 [0,1] [.str [109,97,105,110],.str [100,101,98,117,103]]).bind fun t82=>(R a3S [t0,.int .i64 2] p79.2).bind fun p84=>(a0a tab a0E t82 p84.1).bind fun t85=>(a0c tab p84.2 ty9 t85).bind fun t86=>(a0b tab a0R 7 p9.1).bind fun t87=>((a0s tab p84.2 ty9 t87 t81).bind fun h'=>some ((.und:D),h')).bind fun p911=>chk (a0c tab p84.2 ty9 t80=some t81)
 (chk (a0c tab p911.2 ty9 t85=some t86)
 ((a0b tab a0R 8 p9.1).bind fun t88=>((a0s tab p911.2 ty9 t88 t86).bind fun h'=>some ((.und:D),h')).bind fun p913=>(R c0x [t0] p913.2).bind fun p90=>(a0b tab a0R 9 p9.1).bind fun t91=>((a0s tab p90.2 a5r t91 p90.1).bind fun h'=>some ((.und:D),h')).bind fun p903=>(a0c tab p903.2 a0R p9.1).bind fun t92=>(a0P tab a2j [1] [t92]).bind fun t93=>((a0s tab p903.2 a2j p8.1 t93).bind fun h'=>some ((.und:D),h')).bind fun p902_1=>(a0c tab p902_1.2 a2j p8.1).bind fun d0=>scope h p902_1.2 (a0i [d0])))) fun x_2=>a0H x_2 ((a0c tab r_3.2.2 a2j p8.1).bind fun d0=>scope h r_3.2.2 (a0i [d0])))
  ((R c1H [t0] p50.2).bind fun p72_1=>(R c1O [t0] p72_1.2).bind fun p74_1=>(a0b tab a0R 5 p9.1).bind fun t75_1=>((a0s tab p74_1.2 ty3 t75_1 p72_1.1).bind fun h'=>some ((.und:D),h')).bind fun p905_3=>(a0b tab a0R 6 p9.1).bind fun t76_1=>((a0s tab p905_3.2 ty3 t76_1 p74_1.1).bind fun h'=>some ((.und:D),h')).bind fun p907_2=>(a0A tab a0E 4 [0,1,2,3] [.str [116,49],.str [116,50],.str [],.str [49,58,50,58,48]]).bind fun t77_1=>(R a3S [t0,.int .i64 4] p907_2.2).bind fun p79_1=>(a0a tab a0E t77_1 p79_1.1).bind fun t80_1=>(a0c tab p79_1.2 ty9 t80_1).bind fun t81_1=>(a0A tab a0E 2 [0,1] [.str [109,97,105,110],.str [100,101,98,117,103]]).bind fun t82_1=>(R a3S [t0,.int .i64 2] p79_1.2).bind fun p84_1=>(a0a tab a0E t82_1 p84_1.1).bind fun t85_1=>(a0c tab p84_1.2 ty9 t85_1).bind fun t86_1=>(a0b tab a0R 7 p9.1).bind fun t87_1=>((a0s tab p84_1.2 ty9 t87_1 t81_1).bind fun h'=>some ((.und:D),h')).bind fun p911_1=>chk (a0c tab p84_1.2 ty9 t80_1=some t81_1)
 (chk (a0c tab p911_1.2 ty9 t85_1=some t86_1)
 ((a0b tab a0R 8 p9.1).bind fun t88_1=>((a0s tab p911_1.2 ty9 t88_1 t86_1).bind fun h'=>some ((.und:D),h')).bind fun p913_1=>(R c0x [t0] p913_1.2).bind fun p90_1=>(a0b tab a0R 9 p9.1).bind fun t91_1=>((a0s tab p90_1.2 a5r t91_1 p90_1.1).bind fun h'=>some ((.und:D),h')).bind fun p903_1=>(a0c tab p903_1.2 a0R p9.1).bind fun t92_1=>(a0P tab a2j [1] [t92_1]).bind fun t93_1=>((a0s tab p903_1.2 a2j p8.1 t93_1).bind fun h'=>some ((.und:D),h')).bind fun p902_2=>(a0c tab p902_2.2 a2j p8.1).bind fun d0=>scope h p902_2.2 (a0i [d0]))))) fun x=>a0H x ((a0c tab r_1.2.2 a2j p8.1).bind fun d0=>scope h r_1.2.2 (a0i [d0]))
theorem e84 (t0 t1 t2 t3:D) (h:Hp):R c1M [t0,t1,t2,t3] h=F84 t0 t1 t2 t3 h :=
 er i68 (by kernel_rfl) (by kernel_rfl)
noncomputable def F85 (t0 t1:D) (h:Hp):Option (D × Hp) :=
 (a1H t0).bind fun t2=>(a1H t1).bind fun t3=>(a0b tab a0R 5 t2).bind fun t6=>(a0c tab h ty3 t6).bind fun t7=>(a0b tab a0R 5 t3).bind fun t8=>(a0c tab h ty3 t8).bind fun t9=>(a0j tab .neq ty3 t7 t9).bind fun t10=>dIf t10
  ((a0b tab a0R 5 t2).bind fun t11=>(a0c tab h ty3 t11).bind fun t12=>(a0b tab a0R 5 t3).bind fun t13=>(a0c tab h ty3 t13).bind fun t14=>(a0j tab .lss ty3 t12 t14).bind fun t15=>some (a0i [t15],h))
  ((a0b tab a0R 0 t2).bind fun t17=>(a0c tab h ty3 t17).bind fun t18=>(a0b tab a0R 0 t3).bind fun t19=>(a0c tab h ty3 t19).bind fun t20=>(a0j tab .neq ty3 t18 t20).bind fun t21=>dIf t21
  ((a0b tab a0R 0 t2).bind fun t22=>(a0c tab h ty3 t22).bind fun t23=>(a0b tab a0R 0 t3).bind fun t24=>(a0c tab h ty3 t24).bind fun t25=>(a0j tab .lss ty3 t23 t25).bind fun t26=>some (a0i [t26],h))
  ((a0b tab a0R 1 t2).bind fun t28=>(a0c tab h ty3 t28).bind fun t29=>(a0b tab a0R 1 t3).bind fun t30=>(a0c tab h ty3 t30).bind fun t31=>(a0j tab .neq ty3 t29 t31).bind fun t32=>dIf t32
  ((a0b tab a0R 1 t2).bind fun t33=>(a0c tab h ty3 t33).bind fun t34=>(a0b tab a0R 1 t3).bind fun t35=>(a0c tab h ty3 t35).bind fun t36=>(a0j tab .lss ty3 t34 t36).bind fun t37=>some (a0i [t37],h))
  ((a0b tab a0R 2 t2).bind fun t38=>(a0c tab h ty3 t38).bind fun t39=>(a0b tab a0R 2 t3).bind fun t40=>(a0c tab h ty3 t40).bind fun t41=>(a0j tab .lss ty3 t39 t41).bind fun t42=>some (a0i [t42],h))))
theorem e85 (t0 t1:D) (h:Hp):R c3K [t0,t1] h=F85 t0 t1 h :=
 er i69 (by kernel_rfl) (by kernel_rfl)
noncomputable def a9m (t0 t1 t2:D) (ds:List D) (h_1:Hp):Option Out :=
 (a0w tab a0S t1).bind fun t13=>(a0j tab .lss ty3 (nth 1 ds) t13).bind fun t14=>(gd t14 false (some (nth 2 ds))).bind fun t16=>(gd t14 false (some t2)).bind fun t17=>(gd t14 false (a0w tab a0S t17)).bind fun t18=>(gd t14 false (a0j tab .lss ty3 t16 t18)).bind fun t19=>(a1g t14 (.bool true) t19).bind fun t20=>dIf t20
  ((a0w tab a0S t2).bind fun t35=>(a0j tab .eql ty3 (nth 2 ds) t35).bind fun t36=>(dIf t36
  (some (.nrm,[.int .i64 (-1),nth 6 ds],h_1))
  ((a0w tab a0S t1).bind fun t40=>(a0j tab .eql ty3 (nth 1 ds) t40).bind fun t41=>(dIf t41
  (some (.nrm,[.int .i64 1],h_1))
  ((a0a tab a0S t1 (nth 1 ds)).bind fun t23=>(a0b tab a0o 0 t23).bind fun t24=>(a0c tab h_1 a0E t24).bind fun t25=>(a0a tab a0S t2 (nth 2 ds)).bind fun t28=>(a0b tab a0o 0 t28).bind fun t29=>(a0c tab h_1 a0E t29).bind fun t30=>(R a5L [t25,t30] h_1).bind fun p31=>some (.nrm,[p31.1],p31.2))).bind fun r_1=>some (r_1.1,[nth 0 r_1.2.1,t41],r_1.2.2))).bind fun r_2=>a0z (a0v 2 r_2.1) ((a0j tab .lss ty3 (nth 0 r_2.2.1) (.int .i64 0)).bind fun t61=>(dIf t61
  ((a0a tab a0S t1 (nth 1 ds)).bind fun t65=>(a0c tab r_2.2.2 a0o t65).bind fun t66=>(a0A tab a0S 1 [0] [t66]).bind fun t67=>(a0p tab r_2.2.2 a0S a0S (nth 0 ds) t67).bind fun p68=>(a0j tab .add ty3 (nth 1 ds) (.int .i64 1)).bind fun t70=>some (.nrm,[p68.1,t70,nth 2 ds,nth 8 ds],p68.2))
  ((a0j tab .gtr ty3 (nth 0 r_2.2.1) (.int .i64 0)).bind fun t73=>(dIf t73
  ((a0a tab a0S t2 (nth 2 ds)).bind fun t77=>(a0c tab r_2.2.2 a0o t77).bind fun t78=>(a0A tab a0S 1 [0] [t78]).bind fun t79=>(a0p tab r_2.2.2 a0S a0S (nth 0 ds) t79).bind fun p80=>(a0j tab .add ty3 (nth 2 ds) (.int .i64 1)).bind fun t82=>some (.nrm,[p80.1,nth 1 ds,t82],p80.2))
  ((a0a tab a0S t1 (nth 1 ds)).bind fun t46=>(a0c tab r_2.2.2 a0o t46).bind fun t47=>(a0a tab a0S t2 (nth 2 ds)).bind fun t50=>(a0c tab r_2.2.2 a0o t50).bind fun t51=>(R b0g [t0,t47,t51] r_2.2.2).bind fun p52=>(a0A tab a0S 1 [0] [p52.1]).bind fun t53=>(a0p tab p52.2 a0S a0S (nth 0 ds) t53).bind fun p54=>(a0j tab .add ty3 (nth 1 ds) (.int .i64 1)).bind fun t56=>(a0j tab .add ty3 (nth 2 ds) (.int .i64 1)).bind fun t58=>some (.nrm,[p54.1,t56,t58],p54.2))).bind fun r_3=>some (r_3.1,[nth 0 r_3.2.1,nth 1 r_3.2.1,nth 2 r_3.2.1,t73],r_3.2.2))).bind fun r_4=>some ((a0v 1 (a0v 3 r_4.1)),[nth 0 r_4.2.1,nth 1 r_4.2.1,nth 2 r_4.2.1,nth 0 r_2.2.1,t20,t36,nth 1 r_2.2.1,t61,nth 3 r_4.2.1],r_4.2.2)) fun x=>some ((a0v 1 x),[nth 0 ds,nth 1 ds,nth 2 ds,nth 0 r_2.2.1,t20,t36,nth 1 r_2.2.1,nth 7 ds,nth 8 ds],r_2.2.2))
  (some ((.ext 0),[nth 0 ds,nth 1 ds,nth 2 ds,nth 3 ds,t20,nth 5 ds,nth 6 ds,nth 7 ds,nth 8 ds],h_1))
noncomputable def b9m (t0 t1 t2:D) (h:Hp):Option (D × Hp) :=
 ((a0B (a9m t0 t1 t2) [.nils,.int .i64 0,.int .i64 0,.any,.any,.any,.any,.any,.any] h).bind fun r=>some ((a0v 0 r.1),[nth 0 r.2.1,nth 1 r.2.1,nth 2 r.2.1,nth 3 r.2.1,nth 4 r.2.1,nth 5 r.2.1,nth 6 r.2.1,nth 7 r.2.1,nth 8 r.2.1],r.2.2)).bind fun r_5=>a0z r_5.1 (scope h r_5.2.2 (a0i [nth 0 r_5.2.1])) fun x_1=>a0H x_1 (scope h r_5.2.2 (a0i [.nils]))
theorem c2U (t0 t1 t2:D) (h:Hp):R b0e [t0,t1,t2] h=b9m t0 t1 t2 h :=
 er i70 (by kernel_rfl) (by kernel_rfl)
noncomputable def a6f (t1 t5:D) (p7:D × Hp) (ds:List D) (h_1:Hp):Option Out :=
 (a0w tab a4v t1).bind fun t23=>(a0j tab .lss ty3 (nth 0 ds) t23).bind fun t24=>dIf t24
  ((a0a tab a4v t1 (nth 0 ds)).bind fun t29=>(a0c tab h_1 a3x t29).bind fun t30=>(a7s 2 t30).bind fun t9=>(a0c tab h_1 a0R t5).bind fun t32=>(a0b tab a3x 1 t9).bind fun t33=>(a0c tab h_1 ty9 t33).bind fun t34=>(R b2t [t32,t34] h_1).bind fun p35=>(a0D 0 p35.1).bind fun t36=>(a0D 1 p35.1).bind fun t37=>(a0b tab a3x 0 t9).bind fun t38=>(a0c tab p35.2 ty3 t38).bind fun t39=>(a0j tab .eql ty3 t39 (.int .i64 0)).bind fun t41=>(dIf t41
  ((a0b tab a0R 6 t5).bind fun t42=>(a0c tab p35.2 ty3 t42).bind fun t43=>some (.nrm,[t43,.bool true,.nils,nth 7 ds,nth 8 ds,nth 12 ds,nth 13 ds,nth 14 ds,nth 15 ds],p35.2))
  ((a0j tab .eql ty3 t39 (.int .i64 1)).bind fun t45=>(dIf t45
  ((a0b tab a0R 6 t5).bind fun t47=>(a0c tab p35.2 ty3 t47).bind fun t48=>(a0j tab .mul ty3 t48 t36).bind fun t50=>some (.nrm,[t50,t37,.nils,nth 7 ds,nth 8 ds,nth 13 ds,nth 14 ds,nth 15 ds],p35.2))
  ((a0j tab .eql ty3 t39 (.int .i64 2)).bind fun t52=>(dIf t52
  (some (.nrm,[t52],p35.2))
  ((a0j tab .eql ty3 t39 (.int .i64 3)).bind fun t53=>some (.nrm,[t53],p35.2))).bind fun r_1=>a0z r_1.1 ((dIf (nth 0 r_1.2.1)
  (some (.nrm,[t36,t37,.nils,nth 7 ds,nth 8 ds,nth 14 ds,nth 15 ds],r_1.2.2))
  ((a0j tab .eql ty3 t39 (.int .i64 4)).bind fun t57=>(dIf t57
  ((a0c tab r_1.2.2 a0R t5).bind fun t59=>(a0b tab a3x 1 t9).bind fun t60=>(a0c tab r_1.2.2 ty9 t60).bind fun t61=>(R a7N [t59,t61] r_1.2.2).bind fun p62=>(a0D 0 p62.1).bind fun t63=>(a0D 1 p62.1).bind fun t64=>(dIf t64
  ((a0A tab a0E 1 [0] [t63]).bind fun t67=>some (.nrm,[.int .i64 1,t67],p62.2))
  (some (.nrm,[.int .i64 0,.nils],p62.2))).bind fun r_2=>some (r_2.1,[nth 0 r_2.2.1,nth 1 r_2.2.1,t63,t64,t64],r_2.2.2))
  (some (.nrm,[.int .i64 0,.nils,nth 7 ds,nth 8 ds,nth 15 ds],r_1.2.2))).bind fun r_3=>some (r_3.1,[nth 0 r_3.2.1,.bool true,nth 1 r_3.2.1,nth 2 r_3.2.1,nth 3 r_3.2.1,t57,nth 4 r_3.2.1],r_3.2.2))).bind fun r_4=>some (r_4.1,[nth 0 r_4.2.1,nth 1 r_4.2.1,nth 2 r_4.2.1,nth 3 r_4.2.1,nth 4 r_4.2.1,nth 0 r_1.2.1,nth 5 r_4.2.1,nth 6 r_4.2.1],r_4.2.2)) fun x=>some (x,[.int .i64 0,.bool true,.nils,nth 7 ds,nth 8 ds,nth 0 r_1.2.1,nth 14 ds,nth 15 ds],r_1.2.2))).bind fun r_5=>some (r_5.1,[nth 0 r_5.2.1,nth 1 r_5.2.1,nth 2 r_5.2.1,nth 3 r_5.2.1,nth 4 r_5.2.1,t45,nth 5 r_5.2.1,nth 6 r_5.2.1,nth 7 r_5.2.1],r_5.2.2))).bind fun r_6=>a0z (a0v 2 r_6.1) ((a0b tab a0o 1 p7.1).bind fun t68=>(a0c tab r_6.2.2 a0V t68).bind fun t69=>(a0A tab a0V 1 [0] [nth 0 r_6.2.1]).bind fun t71=>(a0p tab r_6.2.2 a0V a0V t69 t71).bind fun p72=>(a0b tab a0o 2 p7.1).bind fun t73=>(a0c tab p72.2 a0J t73).bind fun t74=>(a0A tab a0J 1 [0] [nth 1 r_6.2.1]).bind fun t76=>(a0p tab p72.2 a0J a0J t74 t76).bind fun p77=>(a0b tab a0o 3 p7.1).bind fun t78=>(a0c tab p77.2 a0O t78).bind fun t79=>(a0A tab a0O 1 [0] [nth 2 r_6.2.1]).bind fun t81=>(a0p tab p77.2 a0O a0O t79 t81).bind fun p82=>(a0b tab a0o 1 p7.1).bind fun t83=>((a0s tab p82.2 a0V t83 p72.1).bind fun h'=>some ((.und:D),h')).bind fun p916=>(a0b tab a0o 2 p7.1).bind fun t84=>((a0s tab p916.2 a0J t84 p77.1).bind fun h'=>some ((.und:D),h')).bind fun p918=>chk (a0c tab r_6.2.2 a0J t73=some t74)
 (chk (a0c tab r_6.2.2 a0O t78=some t79)
 (chk (a0c tab p72.2 a0O t78=some t79)
 ((a0b tab a0o 3 p7.1).bind fun t85=>((a0s tab p918.2 a0O t85 p82.1).bind fun h'=>some ((.und:D),h')).bind fun p920=>(a0j tab .add ty3 (nth 0 ds) (.int .i64 1)).bind fun t26=>some (.nrm,[t26,t9,nth 0 r_6.2.1,nth 1 r_6.2.1,nth 2 r_6.2.1,t36,t37,nth 3 r_6.2.1,nth 4 r_6.2.1,t24,t39,t41,nth 5 r_6.2.1,nth 6 r_6.2.1,nth 7 r_6.2.1,nth 8 r_6.2.1],p920.2))))) fun x_1=>a0z (a0v 1 x_1) ((a0j tab .add ty3 (nth 0 ds) (.int .i64 1)).bind fun t26_1=>some (.nrm,[t26_1,t9,nth 0 r_6.2.1,nth 1 r_6.2.1,nth 2 r_6.2.1,t36,t37,nth 3 r_6.2.1,nth 4 r_6.2.1,t24,t39,t41,nth 5 r_6.2.1,nth 6 r_6.2.1,nth 7 r_6.2.1,nth 8 r_6.2.1],r_6.2.2)) fun x_2=>some (x_2,[nth 0 ds,t9,nth 0 r_6.2.1,nth 1 r_6.2.1,nth 2 r_6.2.1,t36,t37,nth 3 r_6.2.1,nth 4 r_6.2.1,t24,t39,t41,nth 5 r_6.2.1,nth 6 r_6.2.1,nth 7 r_6.2.1,nth 8 r_6.2.1],r_6.2.2))
  (some ((.ext 0),[nth 0 ds,nth 1 ds,nth 2 ds,nth 3 ds,nth 4 ds,nth 5 ds,nth 6 ds,nth 7 ds,nth 8 ds,t24,nth 10 ds,nth 11 ds,nth 12 ds,nth 13 ds,nth 14 ds,nth 15 ds],h_1))
noncomputable def b9n (t0 t1 t2:D) (h:Hp):Option (D × Hp) :=
 (a1H t2).bind fun t5=>(some ((.ptr h.length 0 0:D),a0K h a0o 4 [[.nils,.nils,.nils,.nils]])).bind fun p6=>(a0c tab p6.2 a0R t5).bind fun t18=>(R a5a [t0,t18] p6.2).bind fun p19=>(a0P tab a0o [0] [p19.1]).bind fun t20=>(some ((.ptr p19.2.length 0 0:D),a0K p19.2 a0o 4 [[.nils,.nils,.nils,.nils]])).bind fun p7=>((a0s tab p7.2 a0o p7.1 t20).bind fun h'=>some ((.und:D),h')).bind fun p905=>((a0B (a6f t1 t5 p7) [.int .i64 0,.any,.any,.any,.any,.any,.any,.any,.any,.any,.any,.any,.any,.any,.any,.any] p905.2).bind fun r=>some ((a0v 0 r.1),[nth 0 r.2.1,nth 1 r.2.1,nth 2 r.2.1,nth 3 r.2.1,nth 4 r.2.1,nth 5 r.2.1,nth 6 r.2.1,nth 7 r.2.1,nth 8 r.2.1,nth 9 r.2.1,nth 10 r.2.1,nth 11 r.2.1,nth 12 r.2.1,nth 13 r.2.1,nth 14 r.2.1,nth 15 r.2.1],r.2.2)).bind fun r_7=>a0z r_7.1 ((a0c tab r_7.2.2 a0o p7.1).bind fun t86=>((a0s tab r_7.2.2 a0o p6.1 t86).bind fun h'=>some ((.und:D),h')).bind fun p901=>(a0c tab p901.2 a0o p6.1).bind fun d0=>scope h p901.2 (a0i [d0])) fun x_3=>a0H x_3 ((a0c tab r_7.2.2 a0o p6.1).bind fun d0=>scope h r_7.2.2 (a0i [d0]))
theorem c2V (t0 t1 t2:D) (h:Hp):R b0f [t0,t1,t2] h=b9n t0 t1 t2 h :=
 er i71 (by kernel_rfl) (by kernel_rfl)
noncomputable def a6q (t0 t1 t3:D) (ds_1:List D) (h_2:Hp):Option Out :=
 (a0j tab .gtr ty3 (nth 0 ds_1) t1).bind fun t20=>(gd t20 true (some t3)).bind fun t22=>(gd t20 true (some t0)).bind fun t23=>(gd t20 true (some (nth 0 ds_1))).bind fun t24=>(gd t20 true (a0a tab a0h t23 t24)).bind fun t25=>(gd t20 true (a0c tab h_2 a0d t25)).bind fun t26=>(gd t20 true (some t0)).bind fun t27=>(gd t20 true (some (nth 0 ds_1))).bind fun t28=>(gd t20 true (a0j tab .sub ty3 t28 (.int .i64 1))).bind fun t29=>(gd t20 true (a0a tab a0h t27 t29)).bind fun t30=>(gd t20 true (a0c tab h_2 a0d t30)).bind fun t31=>(gdW t20 true h_2 (a1V R t22 [t26,t31] h_2)).bind fun p32=>(gd t20 true (a0j tab .lss ty3 p32.1 (.int .i64 0))).bind fun t33=>(a1g t20 t33 (.bool false)).bind fun t34=>dIf t34
  ((a0j tab .sub ty3 (nth 0 ds_1) (.int .i64 1)).bind fun t41=>(a0j tab .sub ty3 (nth 0 ds_1) (.int .i64 1)).bind fun t44=>(a0a tab a0h t0 t44).bind fun t45=>(a0c tab p32.2 a0d t45).bind fun t46=>(a0a tab a0h t0 (nth 0 ds_1)).bind fun t49=>(a0c tab p32.2 a0d t49).bind fun t50=>(a0a tab a0h t0 (nth 0 ds_1)).bind fun t51=>((a0s tab p32.2 a0d t51 t46).bind fun h'=>some ((.und:D),h')).bind fun p915=>(a0a tab a0h t0 t41).bind fun t52=>((a0s tab p915.2 a0d t52 t50).bind fun h'=>some ((.und:D),h')).bind fun p917=>(a0j tab .sub ty3 (nth 0 ds_1) (.int .i64 1)).bind fun t36=>some (.nrm,[t36,t34],p917.2))
  (some ((.ext 2),[nth 0 ds_1,t34],p32.2))
noncomputable def a6p (t0 t1 t2 t3:D) (ds:List D) (h_1:Hp):Option Out :=
 (a0j tab .lss ty3 (nth 0 ds) t2).bind fun t14=>dIf t14
  (((a0B (a6q t0 t1 t3) [nth 0 ds,nth 3 ds] h_1).bind fun r_1=>some ((a0v 2 r_1.1),[nth 0 r_1.2.1,nth 1 r_1.2.1],r_1.2.2)).bind fun r_2=>a0z (a0v 1 r_2.1) ((a0j tab .add ty3 (nth 0 ds) (.int .i64 1)).bind fun t16=>some (.nrm,[t16,nth 0 r_2.2.1,t14,nth 1 r_2.2.1],r_2.2.2)) fun x=>some (x,[nth 0 ds,nth 0 r_2.2.1,t14,nth 1 r_2.2.1],r_2.2.2))
  (some ((.ext 0),[nth 0 ds,nth 1 ds,t14,nth 3 ds],h_1))
noncomputable def b6O (t0 t1 t2 t3:D) (h:Hp):Option (D × Hp) :=
 (a0j tab .add ty3 t1 (.int .i64 1)).bind fun t11=>((a0B (a6p t0 t1 t2 t3) [t11,.any,.any,.any] h).bind fun r=>some ((a0v 0 r.1),[nth 0 r.2.1,nth 1 r.2.1,nth 2 r.2.1,nth 3 r.2.1],r.2.2)).bind fun r_3=>a0H r_3.1 (some (a0i [],r_3.2.2))
theorem c0r (t0 t1 t2 t3:D) (h:Hp):R a5f [t0,t1,t2,t3] h=b6O t0 t1 t2 t3 h :=
 er i72 (by kernel_rfl) (by kernel_rfl)
noncomputable def a4F (a0 a4 t22m:D) (ds:List D) (h_3:Hp):Option Out :=
 (a0j tab .lss ty3 (nth 0 ds) (nth 1 ds)).bind fun t151=>dIf t151
  ((a0j tab .add ty3 (nth 0 ds) (nth 1 ds)).bind fun t154=>(a1B tab ty3 a1U t154).bind fun t155=>(a0j tab .shr a1U t155 (.int .u64 1)).bind fun t156=>(a1B tab a1U ty3 t156).bind fun t157=>(a0j tab .sub ty3 t22m t157).bind fun t162=>(a0a tab a0h a0 t162).bind fun t163=>(a0c tab h_3 a0d t163).bind fun t164=>(a0a tab a0h a0 t157).bind fun t167=>(a0c tab h_3 a0d t167).bind fun t168=>(a1V R a4 [t164,t168] h_3).bind fun p169=>(a0j tab .lss ty3 p169.1 (.int .i64 0)).bind fun t170=>(dUn .not t170).bind fun t171=>(dIf t171
  ((a0j tab .add ty3 t157 (.int .i64 1)).bind fun t173=>some (.nrm,[t173,nth 1 ds],p169.2))
  (some (.nrm,[nth 0 ds,t157],p169.2))).bind fun r_2=>some ((a0v 9 r_2.1),[nth 0 r_2.2.1,nth 1 r_2.2.1,t157,t151,t171],r_2.2.2))
  (some ((.ext 8),[nth 0 ds,nth 1 ds,nth 2 ds,t151,nth 4 ds],h_3))
noncomputable def a3I (a0 a1 a2 a3 a4:D) (h_2:Hp):Option (D × Hp) :=
  (a0j tab .add ty3 a1 a3).bind fun t131=>(a1B tab ty3 a1U t131).bind fun t132=>(a0j tab .shr a1U t132 (.int .u64 1)).bind fun t133=>(a1B tab a1U ty3 t133).bind fun t134=>(a0j tab .add ty3 t134 a2).bind fun t137=>(a0j tab .gtr ty3 a2 t134).bind fun t140=>(dIf t140
   ((a0j tab .sub ty3 t137 a3).bind fun t143=>some (.nrm,[t143,t134],h_2))
   (some (.nrm,[a1,a2],h_2))).bind fun r=>a0z r.1 ((a0j tab .sub ty3 t137 (.int .i64 1)).bind fun t148=>((a0B (a4F a0 a4 t148) [nth 0 r.2.1,nth 1 r.2.1,.any,.any,.any] r.2.2).bind fun r_1=>some ((a0v 8 r_1.1),[nth 0 r_1.2.1,nth 1 r_1.2.1,nth 2 r_1.2.1,nth 3 r_1.2.1,nth 4 r_1.2.1],r_1.2.2)).bind fun r_3=>a0z r_3.1 ((a0j tab .sub ty3 t137 (nth 0 r_3.2.1)).bind fun t177=>(a0j tab .lss ty3 (nth 0 r_3.2.1) a2).bind fun t180=>(gd t180 true (some a2)).bind fun t182=>(gd t180 true (some t177)).bind fun t183=>(gd t180 true (a0j tab .lss ty3 t182 t183)).bind fun t184=>(a1g t180 t184 (.bool false)).bind fun t185=>(dIf t185
   ((R b2z [a0,nth 0 r_3.2.1,a2,t177,a4] r_3.2.2).bind fun p191=>some (.nrm,([]:List D),p191.2))
   (some (.nrm,([]:List D),r_3.2.2))).bind fun r_4=>a0z r_4.1 ((a0j tab .lss ty3 a1 (nth 0 r_3.2.1)).bind fun t194=>(gd t194 true (some (nth 0 r_3.2.1))).bind fun t196=>(gd t194 true (some t134)).bind fun t197=>(gd t194 true (a0j tab .lss ty3 t196 t197)).bind fun t198=>(a1g t194 t198 (.bool false)).bind fun t199=>(dIf t199
   ((R a4p [a0,a1,nth 0 r_3.2.1,t134,a4] r_4.2.2).bind fun p205=>some (.nrm,([]:List D),p205.2))
   (some (.nrm,([]:List D),r_4.2.2))).bind fun r_5=>a0z r_5.1 ((a0j tab .lss ty3 t134 t177).bind fun t208=>(gd t208 true (some t177)).bind fun t210=>(gd t208 true (some a3)).bind fun t211=>(gd t208 true (a0j tab .lss ty3 t210 t211)).bind fun t212=>(a1g t208 t212 (.bool false)).bind fun t213=>(dIf t213
   ((R a4p [a0,t134,t177,a3,a4] r_5.2.2).bind fun p219=>some (.nrm,([]:List D),p219.2))
   (some (.nrm,([]:List D),r_5.2.2))).bind fun r_6=>a0H r_6.1 (some (a0i [],r_6.2.2))) fun x_3=>a0H x_3 (some (a0i [],r_5.2.2))) fun x_2=>a0H x_2 (some (a0i [],r_4.2.2))) fun x_1=>a0H x_1 (some (a0i [],r_3.2.2))) fun x=>a0H x (some (a0i [],r.2.2))
noncomputable def a6r (a0 a2 a4:D) (ds_1:List D) (h_4:Hp):Option Out :=
 (a0j tab .lss ty3 (nth 0 ds_1) (nth 1 ds_1)).bind fun t85=>dIf t85
  ((a0j tab .add ty3 (nth 0 ds_1) (nth 1 ds_1)).bind fun t88=>(a1B tab ty3 a1U t88).bind fun t89=>(a0j tab .shr a1U t89 (.int .u64 1)).bind fun t90=>(a1B tab a1U ty3 t90).bind fun t91=>(a0a tab a0h a0 a2).bind fun t95=>(a0c tab h_4 a0d t95).bind fun t96=>(a0a tab a0h a0 t91).bind fun t99=>(a0c tab h_4 a0d t99).bind fun t100=>(a1V R a4 [t96,t100] h_4).bind fun p101=>(a0j tab .lss ty3 p101.1 (.int .i64 0)).bind fun t102=>(dUn .not t102).bind fun t103=>(dIf t103
  ((a0j tab .add ty3 t91 (.int .i64 1)).bind fun t105=>some (.nrm,[t105,nth 1 ds_1],p101.2))
  (some (.nrm,[nth 0 ds_1,t91],p101.2))).bind fun r_8=>some ((a0v 5 r_8.1),[nth 0 r_8.2.1,nth 1 r_8.2.1,t91,t85,t103],r_8.2.2))
  (some ((.ext 4),[nth 0 ds_1,nth 1 ds_1,nth 2 ds_1,t85,nth 4 ds_1],h_4))
noncomputable def a6s (a0:D) (r_9:Out) (ds_2:List D) (h_5:Hp):Option Out :=
 (a0j tab .gtr ty3 (nth 0 ds_2) (nth 0 r_9.2.1)).bind fun t110=>dIf t110
  ((a0j tab .sub ty3 (nth 0 ds_2) (.int .i64 1)).bind fun t117=>(a0j tab .sub ty3 (nth 0 ds_2) (.int .i64 1)).bind fun t120=>(a0a tab a0h a0 t120).bind fun t121=>(a0c tab h_5 a0d t121).bind fun t122=>(a0a tab a0h a0 (nth 0 ds_2)).bind fun t125=>(a0c tab h_5 a0d t125).bind fun t126=>(a0a tab a0h a0 (nth 0 ds_2)).bind fun t127=>((a0s tab h_5 a0d t127 t122).bind fun h'=>some ((.und:D),h')).bind fun p915=>(a0a tab a0h a0 t117).bind fun t128=>((a0s tab p915.2 a0d t128 t126).bind fun h'=>some ((.und:D),h')).bind fun p917=>(a0j tab .sub ty3 (nth 0 ds_2) (.int .i64 1)).bind fun t112=>some (.nrm,[t112,t110],p917.2))
  (some ((.ext 6),[nth 0 ds_2,t110],h_5))
noncomputable def a3H (a0 a1 a2 a3 a4:D) (h_1:Hp):Option (D × Hp) :=
  (a0j tab .sub ty3 a3 a2).bind fun t79=>(a0j tab .eql ty3 t79 (.int .i64 1)).bind fun t80=>dIf t80
   (((a0B (a6r a0 a2 a4) [a1,a2,.any,.any,.any] h_1).bind fun r_7=>some ((a0v 4 r_7.1),[nth 0 r_7.2.1,nth 1 r_7.2.1,nth 2 r_7.2.1,nth 3 r_7.2.1,nth 4 r_7.2.1],r_7.2.2)).bind fun r_9=>a0z r_9.1 (((a0B (a6s a0 r_9) [a2,.any] r_9.2.2).bind fun r_10=>some ((a0v 6 r_10.1),[nth 0 r_10.2.1,nth 1 r_10.2.1],r_10.2.2)).bind fun r_11=>a0z r_11.1 (some (a0i [],r_11.2.2)) fun x_5=>a0z x_5 (a3I a0 a1 a2 a3 a4 r_11.2.2) fun x_6=>a0H x_6 (some (a0i [],r_11.2.2))) fun x_4=>a0z x_4 (a3I a0 a1 a2 a3 a4 r_9.2.2) fun x_7=>a0H x_7 (some (a0i [],r_9.2.2)))
   (a3I a0 a1 a2 a3 a4 h_1)
noncomputable def a6t (t0 t1 t4:D) (ds_3:List D) (h_6:Hp):Option Out :=
 (a0j tab .lss ty3 (nth 0 ds_3) (nth 1 ds_3)).bind fun t33=>dIf t33
  ((a0j tab .add ty3 (nth 0 ds_3) (nth 1 ds_3)).bind fun t36=>(a1B tab ty3 a1U t36).bind fun t37=>(a0j tab .shr a1U t37 (.int .u64 1)).bind fun t38=>(a1B tab a1U ty3 t38).bind fun t39=>(a0a tab a0h t0 t39).bind fun t43=>(a0c tab h_6 a0d t43).bind fun t44=>(a0a tab a0h t0 t1).bind fun t47=>(a0c tab h_6 a0d t47).bind fun t48=>(a1V R t4 [t44,t48] h_6).bind fun p49=>(a0j tab .lss ty3 p49.1 (.int .i64 0)).bind fun t50=>(dIf t50
  ((a0j tab .add ty3 t39 (.int .i64 1)).bind fun t52=>some (.nrm,[t52,nth 1 ds_3],p49.2))
  (some (.nrm,[nth 0 ds_3,t39],p49.2))).bind fun r_13=>some ((a0v 1 r_13.1),[nth 0 r_13.2.1,nth 1 r_13.2.1,t39,t33,t50],r_13.2.2))
  (some ((.ext 0),[nth 0 ds_3,nth 1 ds_3,nth 2 ds_3,t33,nth 4 ds_3],h_6))
noncomputable def a6u (t0:D) (r_14:Out) (ds_4:List D) (h_7:Hp):Option Out :=
 (a0j tab .sub ty3 (nth 0 r_14.2.1) (.int .i64 1)).bind fun t57=>(a0j tab .lss ty3 (nth 0 ds_4) t57).bind fun t58=>dIf t58
  ((a0j tab .add ty3 (nth 0 ds_4) (.int .i64 1)).bind fun t65=>(a0j tab .add ty3 (nth 0 ds_4) (.int .i64 1)).bind fun t68=>(a0a tab a0h t0 t68).bind fun t69=>(a0c tab h_7 a0d t69).bind fun t70=>(a0a tab a0h t0 (nth 0 ds_4)).bind fun t73=>(a0c tab h_7 a0d t73).bind fun t74=>(a0a tab a0h t0 (nth 0 ds_4)).bind fun t75=>((a0s tab h_7 a0d t75 t70).bind fun h'=>some ((.und:D),h')).bind fun p915_1=>(a0a tab a0h t0 t65).bind fun t76=>((a0s tab p915_1.2 a0d t76 t74).bind fun h'=>some ((.und:D),h')).bind fun p917_1=>(a0j tab .add ty3 (nth 0 ds_4) (.int .i64 1)).bind fun t60=>some (.nrm,[t60,t58],p917_1.2))
  (some ((.ext 2),[nth 0 ds_4,t58],h_7))
noncomputable def b4k (t0 t1 t2 t3 t4:D) (h:Hp):Option (D × Hp) :=
 (a0j tab .sub ty3 t2 t1).bind fun t27=>(a0j tab .eql ty3 t27 (.int .i64 1)).bind fun t28=>dIf t28
  (((a0B (a6t t0 t1 t4) [t2,t3,.any,.any,.any] h).bind fun r_12=>some ((a0v 0 r_12.1),[nth 0 r_12.2.1,nth 1 r_12.2.1,nth 2 r_12.2.1,nth 3 r_12.2.1,nth 4 r_12.2.1],r_12.2.2)).bind fun r_14=>a0z r_14.1 (((a0B (a6u t0 r_14) [t1,.any] r_14.2.2).bind fun r_15=>some ((a0v 2 r_15.1),[nth 0 r_15.2.1,nth 1 r_15.2.1],r_15.2.2)).bind fun r_16=>a0z r_16.1 (some (a0i [],r_16.2.2)) fun x_9=>a0z x_9 (a3H t0 t1 t2 t3 t4 r_16.2.2) fun x_10=>a0H x_10 (some (a0i [],r_16.2.2))) fun x_8=>a0z x_8 (a3H t0 t1 t2 t3 t4 r_14.2.2) fun x_11=>a0H x_11 (some (a0i [],r_14.2.2)))
  (a3H t0 t1 t2 t3 t4 h)
theorem b7j (t0 t1 t2 t3 t4:D) (h:Hp):R a4p [t0,t1,t2,t3,t4] h=b4k t0 t1 t2 t3 t4 h :=
 er i73 (by kernel_rfl) (by kernel_rfl)
noncomputable def F91 (t0 t1:D) (h:Hp):Option (D × Hp) :=
 (R b4Y [t0] h).bind fun p8=>(R b4Y [t1] p8.2).bind fun p10=>dIf p8.1
  (dIf p10.1
  (some (a0i [.int .i64 0],p10.2))
  (some (a0i [.int .i64 (-1)],p10.2)))
  (dIf p10.1
  (some (a0i [.int .i64 1],p10.2))
  ((a0j tab .lss ty9 t0 t1).bind fun t16=>dIf t16
  (some (a0i [.int .i64 (-1)],p10.2))
  ((a0j tab .gtr ty9 t0 t1).bind fun t19=>dIf t19
  (some (a0i [.int .i64 1],p10.2))
  (some (a0i [.int .i64 0],p10.2)))))
theorem e91 (t0 t1:D) (h:Hp):R c3L [t0,t1] h=F91 t0 t1 h :=
 er i74 (by kernel_rfl) (by kernel_rfl)
noncomputable def F75 (t0 t1:D) (h:Hp):Option (D × Hp) :=
 (a1H t0).bind fun t2=>(a0b tab a0R 9 t2).bind fun t6=>(a0c tab h a5r t6).bind fun t7=>(R c3I [t7,t1] h).bind fun p9=>(a0D 0 p9.1).bind fun t10=>(a0D 1 p9.1).bind fun t11=>some (a0i [t10,t11],p9.2)
theorem e75 (t0 t1:D) (h:Hp):R c1L [t0,t1] h=F75 t0 t1 h :=
 er i76 (by kernel_rfl) (by kernel_rfl)
noncomputable def a6h (t0 t1 t3:D) (ds_1:List D) (h_2:Hp):Option Out :=
 (a0j tab .gtr ty3 (nth 0 ds_1) t1).bind fun t20=>(gd t20 true (some t3)).bind fun t22=>(gd t20 true (some t0)).bind fun t23=>(gd t20 true (some (nth 0 ds_1))).bind fun t24=>(gd t20 true (a0a tab a0t t23 t24)).bind fun t25=>(gd t20 true (a0c tab h_2 a0k t25)).bind fun t26=>(gd t20 true (some t0)).bind fun t27=>(gd t20 true (some (nth 0 ds_1))).bind fun t28=>(gd t20 true (a0j tab .sub ty3 t28 (.int .i64 1))).bind fun t29=>(gd t20 true (a0a tab a0t t27 t29)).bind fun t30=>(gd t20 true (a0c tab h_2 a0k t30)).bind fun t31=>(gdW t20 true h_2 (a1V R t22 [t26,t31] h_2)).bind fun p32=>(gd t20 true (a0j tab .lss ty3 p32.1 (.int .i64 0))).bind fun t33=>(a1g t20 t33 (.bool false)).bind fun t34=>dIf t34
  ((a0j tab .sub ty3 (nth 0 ds_1) (.int .i64 1)).bind fun t41=>(a0j tab .sub ty3 (nth 0 ds_1) (.int .i64 1)).bind fun t44=>(a0a tab a0t t0 t44).bind fun t45=>(a0c tab p32.2 a0k t45).bind fun t46=>(a0a tab a0t t0 (nth 0 ds_1)).bind fun t49=>(a0c tab p32.2 a0k t49).bind fun t50=>(a0a tab a0t t0 (nth 0 ds_1)).bind fun t51=>((a0s tab p32.2 a0k t51 t46).bind fun h'=>some ((.und:D),h')).bind fun p915=>(a0a tab a0t t0 t41).bind fun t52=>((a0s tab p915.2 a0k t52 t50).bind fun h'=>some ((.und:D),h')).bind fun p917=>(a0j tab .sub ty3 (nth 0 ds_1) (.int .i64 1)).bind fun t36=>some (.nrm,[t36,t34],p917.2))
  (some ((.ext 2),[nth 0 ds_1,t34],p32.2))
noncomputable def a6g (t0 t1 t2 t3:D) (ds:List D) (h_1:Hp):Option Out :=
 (a0j tab .lss ty3 (nth 0 ds) t2).bind fun t14=>dIf t14
  (((a0B (a6h t0 t1 t3) [nth 0 ds,nth 3 ds] h_1).bind fun r_1=>some ((a0v 2 r_1.1),[nth 0 r_1.2.1,nth 1 r_1.2.1],r_1.2.2)).bind fun r_2=>a0z (a0v 1 r_2.1) ((a0j tab .add ty3 (nth 0 ds) (.int .i64 1)).bind fun t16=>some (.nrm,[t16,nth 0 r_2.2.1,t14,nth 1 r_2.2.1],r_2.2.2)) fun x=>some (x,[nth 0 ds,nth 0 r_2.2.1,t14,nth 1 r_2.2.1],r_2.2.2))
  (some ((.ext 0),[nth 0 ds,nth 1 ds,t14,nth 3 ds],h_1))
noncomputable def b6I (t0 t1 t2 t3:D) (h:Hp):Option (D × Hp) :=
 (a0j tab .add ty3 t1 (.int .i64 1)).bind fun t11=>((a0B (a6g t0 t1 t2 t3) [t11,.any,.any,.any] h).bind fun r=>some ((a0v 0 r.1),[nth 0 r.2.1,nth 1 r.2.1,nth 2 r.2.1,nth 3 r.2.1],r.2.2)).bind fun r_3=>a0H r_3.1 (some (a0i [],r_3.2.2))
theorem c0n (t0 t1 t2 t3:D) (h:Hp):R a4Z [t0,t1,t2,t3] h=b6I t0 t1 t2 t3 h :=
 er i77 (by kernel_rfl) (by kernel_rfl)
noncomputable def a4E (a0 a4 t22m:D) (ds:List D) (h_3:Hp):Option Out :=
 (a0j tab .lss ty3 (nth 0 ds) (nth 1 ds)).bind fun t151=>dIf t151
  ((a0j tab .add ty3 (nth 0 ds) (nth 1 ds)).bind fun t154=>(a1B tab ty3 a1U t154).bind fun t155=>(a0j tab .shr a1U t155 (.int .u64 1)).bind fun t156=>(a1B tab a1U ty3 t156).bind fun t157=>(a0j tab .sub ty3 t22m t157).bind fun t162=>(a0a tab a0t a0 t162).bind fun t163=>(a0c tab h_3 a0k t163).bind fun t164=>(a0a tab a0t a0 t157).bind fun t167=>(a0c tab h_3 a0k t167).bind fun t168=>(a1V R a4 [t164,t168] h_3).bind fun p169=>(a0j tab .lss ty3 p169.1 (.int .i64 0)).bind fun t170=>(dUn .not t170).bind fun t171=>(dIf t171
  ((a0j tab .add ty3 t157 (.int .i64 1)).bind fun t173=>some (.nrm,[t173,nth 1 ds],p169.2))
  (some (.nrm,[nth 0 ds,t157],p169.2))).bind fun r_2=>some ((a0v 9 r_2.1),[nth 0 r_2.2.1,nth 1 r_2.2.1,t157,t151,t171],r_2.2.2))
  (some ((.ext 8),[nth 0 ds,nth 1 ds,nth 2 ds,t151,nth 4 ds],h_3))
noncomputable def a3G (a0 a1 a2 a3 a4:D) (h_2:Hp):Option (D × Hp) :=
  (a0j tab .add ty3 a1 a3).bind fun t131=>(a1B tab ty3 a1U t131).bind fun t132=>(a0j tab .shr a1U t132 (.int .u64 1)).bind fun t133=>(a1B tab a1U ty3 t133).bind fun t134=>(a0j tab .add ty3 t134 a2).bind fun t137=>(a0j tab .gtr ty3 a2 t134).bind fun t140=>(dIf t140
   ((a0j tab .sub ty3 t137 a3).bind fun t143=>some (.nrm,[t143,t134],h_2))
   (some (.nrm,[a1,a2],h_2))).bind fun r=>a0z r.1 ((a0j tab .sub ty3 t137 (.int .i64 1)).bind fun t148=>((a0B (a4E a0 a4 t148) [nth 0 r.2.1,nth 1 r.2.1,.any,.any,.any] r.2.2).bind fun r_1=>some ((a0v 8 r_1.1),[nth 0 r_1.2.1,nth 1 r_1.2.1,nth 2 r_1.2.1,nth 3 r_1.2.1,nth 4 r_1.2.1],r_1.2.2)).bind fun r_3=>a0z r_3.1 ((a0j tab .sub ty3 t137 (nth 0 r_3.2.1)).bind fun t177=>(a0j tab .lss ty3 (nth 0 r_3.2.1) a2).bind fun t180=>(gd t180 true (some a2)).bind fun t182=>(gd t180 true (some t177)).bind fun t183=>(gd t180 true (a0j tab .lss ty3 t182 t183)).bind fun t184=>(a1g t180 t184 (.bool false)).bind fun t185=>(dIf t185
   ((R b2u [a0,nth 0 r_3.2.1,a2,t177,a4] r_3.2.2).bind fun p191=>some (.nrm,([]:List D),p191.2))
   (some (.nrm,([]:List D),r_3.2.2))).bind fun r_4=>a0z r_4.1 ((a0j tab .lss ty3 a1 (nth 0 r_3.2.1)).bind fun t194=>(gd t194 true (some (nth 0 r_3.2.1))).bind fun t196=>(gd t194 true (some t134)).bind fun t197=>(gd t194 true (a0j tab .lss ty3 t196 t197)).bind fun t198=>(a1g t194 t198 (.bool false)).bind fun t199=>(dIf t199
   ((R a4o [a0,a1,nth 0 r_3.2.1,t134,a4] r_4.2.2).bind fun p205=>some (.nrm,([]:List D),p205.2))
   (some (.nrm,([]:List D),r_4.2.2))).bind fun r_5=>a0z r_5.1 ((a0j tab .lss ty3 t134 t177).bind fun t208=>(gd t208 true (some t177)).bind fun t210=>(gd t208 true (some a3)).bind fun t211=>(gd t208 true (a0j tab .lss ty3 t210 t211)).bind fun t212=>(a1g t208 t212 (.bool false)).bind fun t213=>(dIf t213
   ((R a4o [a0,t134,t177,a3,a4] r_5.2.2).bind fun p219=>some (.nrm,([]:List D),p219.2))
   (some (.nrm,([]:List D),r_5.2.2))).bind fun r_6=>a0H r_6.1 (some (a0i [],r_6.2.2))) fun x_3=>a0H x_3 (some (a0i [],r_5.2.2))) fun x_2=>a0H x_2 (some (a0i [],r_4.2.2))) fun x_1=>a0H x_1 (some (a0i [],r_3.2.2))) fun x=>a0H x (some (a0i [],r.2.2))
noncomputable def a6i (a0 a2 a4:D) (ds_1:List D) (h_4:Hp):Option Out :=
 (a0j tab .lss ty3 (nth 0 ds_1) (nth 1 ds_1)).bind fun t85=>dIf t85
  ((a0j tab .add ty3 (nth 0 ds_1) (nth 1 ds_1)).bind fun t88=>(a1B tab ty3 a1U t88).bind fun t89=>(a0j tab .shr a1U t89 (.int .u64 1)).bind fun t90=>(a1B tab a1U ty3 t90).bind fun t91=>(a0a tab a0t a0 a2).bind fun t95=>(a0c tab h_4 a0k t95).bind fun t96=>(a0a tab a0t a0 t91).bind fun t99=>(a0c tab h_4 a0k t99).bind fun t100=>(a1V R a4 [t96,t100] h_4).bind fun p101=>(a0j tab .lss ty3 p101.1 (.int .i64 0)).bind fun t102=>(dUn .not t102).bind fun t103=>(dIf t103
  ((a0j tab .add ty3 t91 (.int .i64 1)).bind fun t105=>some (.nrm,[t105,nth 1 ds_1],p101.2))
  (some (.nrm,[nth 0 ds_1,t91],p101.2))).bind fun r_8=>some ((a0v 5 r_8.1),[nth 0 r_8.2.1,nth 1 r_8.2.1,t91,t85,t103],r_8.2.2))
  (some ((.ext 4),[nth 0 ds_1,nth 1 ds_1,nth 2 ds_1,t85,nth 4 ds_1],h_4))
noncomputable def a6j (a0:D) (r_9:Out) (ds_2:List D) (h_5:Hp):Option Out :=
 (a0j tab .gtr ty3 (nth 0 ds_2) (nth 0 r_9.2.1)).bind fun t110=>dIf t110
  ((a0j tab .sub ty3 (nth 0 ds_2) (.int .i64 1)).bind fun t117=>(a0j tab .sub ty3 (nth 0 ds_2) (.int .i64 1)).bind fun t120=>(a0a tab a0t a0 t120).bind fun t121=>(a0c tab h_5 a0k t121).bind fun t122=>(a0a tab a0t a0 (nth 0 ds_2)).bind fun t125=>(a0c tab h_5 a0k t125).bind fun t126=>(a0a tab a0t a0 (nth 0 ds_2)).bind fun t127=>((a0s tab h_5 a0k t127 t122).bind fun h'=>some ((.und:D),h')).bind fun p915=>(a0a tab a0t a0 t117).bind fun t128=>((a0s tab p915.2 a0k t128 t126).bind fun h'=>some ((.und:D),h')).bind fun p917=>(a0j tab .sub ty3 (nth 0 ds_2) (.int .i64 1)).bind fun t112=>some (.nrm,[t112,t110],p917.2))
  (some ((.ext 6),[nth 0 ds_2,t110],h_5))
noncomputable def a3F (a0 a1 a2 a3 a4:D) (h_1:Hp):Option (D × Hp) :=
  (a0j tab .sub ty3 a3 a2).bind fun t79=>(a0j tab .eql ty3 t79 (.int .i64 1)).bind fun t80=>dIf t80
   (((a0B (a6i a0 a2 a4) [a1,a2,.any,.any,.any] h_1).bind fun r_7=>some ((a0v 4 r_7.1),[nth 0 r_7.2.1,nth 1 r_7.2.1,nth 2 r_7.2.1,nth 3 r_7.2.1,nth 4 r_7.2.1],r_7.2.2)).bind fun r_9=>a0z r_9.1 (((a0B (a6j a0 r_9) [a2,.any] r_9.2.2).bind fun r_10=>some ((a0v 6 r_10.1),[nth 0 r_10.2.1,nth 1 r_10.2.1],r_10.2.2)).bind fun r_11=>a0z r_11.1 (some (a0i [],r_11.2.2)) fun x_5=>a0z x_5 (a3G a0 a1 a2 a3 a4 r_11.2.2) fun x_6=>a0H x_6 (some (a0i [],r_11.2.2))) fun x_4=>a0z x_4 (a3G a0 a1 a2 a3 a4 r_9.2.2) fun x_7=>a0H x_7 (some (a0i [],r_9.2.2)))
   (a3G a0 a1 a2 a3 a4 h_1)
noncomputable def a6k (t0 t1 t4:D) (ds_3:List D) (h_6:Hp):Option Out :=
 (a0j tab .lss ty3 (nth 0 ds_3) (nth 1 ds_3)).bind fun t33=>dIf t33
  ((a0j tab .add ty3 (nth 0 ds_3) (nth 1 ds_3)).bind fun t36=>(a1B tab ty3 a1U t36).bind fun t37=>(a0j tab .shr a1U t37 (.int .u64 1)).bind fun t38=>(a1B tab a1U ty3 t38).bind fun t39=>(a0a tab a0t t0 t39).bind fun t43=>(a0c tab h_6 a0k t43).bind fun t44=>(a0a tab a0t t0 t1).bind fun t47=>(a0c tab h_6 a0k t47).bind fun t48=>(a1V R t4 [t44,t48] h_6).bind fun p49=>(a0j tab .lss ty3 p49.1 (.int .i64 0)).bind fun t50=>(dIf t50
  ((a0j tab .add ty3 t39 (.int .i64 1)).bind fun t52=>some (.nrm,[t52,nth 1 ds_3],p49.2))
  (some (.nrm,[nth 0 ds_3,t39],p49.2))).bind fun r_13=>some ((a0v 1 r_13.1),[nth 0 r_13.2.1,nth 1 r_13.2.1,t39,t33,t50],r_13.2.2))
  (some ((.ext 0),[nth 0 ds_3,nth 1 ds_3,nth 2 ds_3,t33,nth 4 ds_3],h_6))
noncomputable def a6l (t0:D) (r_14:Out) (ds_4:List D) (h_7:Hp):Option Out :=
 (a0j tab .sub ty3 (nth 0 r_14.2.1) (.int .i64 1)).bind fun t57=>(a0j tab .lss ty3 (nth 0 ds_4) t57).bind fun t58=>dIf t58
  ((a0j tab .add ty3 (nth 0 ds_4) (.int .i64 1)).bind fun t65=>(a0j tab .add ty3 (nth 0 ds_4) (.int .i64 1)).bind fun t68=>(a0a tab a0t t0 t68).bind fun t69=>(a0c tab h_7 a0k t69).bind fun t70=>(a0a tab a0t t0 (nth 0 ds_4)).bind fun t73=>(a0c tab h_7 a0k t73).bind fun t74=>(a0a tab a0t t0 (nth 0 ds_4)).bind fun t75=>((a0s tab h_7 a0k t75 t70).bind fun h'=>some ((.und:D),h')).bind fun p915_1=>(a0a tab a0t t0 t65).bind fun t76=>((a0s tab p915_1.2 a0k t76 t74).bind fun h'=>some ((.und:D),h')).bind fun p917_1=>(a0j tab .add ty3 (nth 0 ds_4) (.int .i64 1)).bind fun t60=>some (.nrm,[t60,t58],p917_1.2))
  (some ((.ext 2),[nth 0 ds_4,t58],h_7))
noncomputable def b4a (t0 t1 t2 t3 t4:D) (h:Hp):Option (D × Hp) :=
 (a0j tab .sub ty3 t2 t1).bind fun t27=>(a0j tab .eql ty3 t27 (.int .i64 1)).bind fun t28=>dIf t28
  (((a0B (a6k t0 t1 t4) [t2,t3,.any,.any,.any] h).bind fun r_12=>some ((a0v 0 r_12.1),[nth 0 r_12.2.1,nth 1 r_12.2.1,nth 2 r_12.2.1,nth 3 r_12.2.1,nth 4 r_12.2.1],r_12.2.2)).bind fun r_14=>a0z r_14.1 (((a0B (a6l t0 r_14) [t1,.any] r_14.2.2).bind fun r_15=>some ((a0v 2 r_15.1),[nth 0 r_15.2.1,nth 1 r_15.2.1],r_15.2.2)).bind fun r_16=>a0z r_16.1 (some (a0i [],r_16.2.2)) fun x_9=>a0z x_9 (a3F t0 t1 t2 t3 t4 r_16.2.2) fun x_10=>a0H x_10 (some (a0i [],r_16.2.2))) fun x_8=>a0z x_8 (a3F t0 t1 t2 t3 t4 r_14.2.2) fun x_11=>a0H x_11 (some (a0i [],r_14.2.2)))
  (a3F t0 t1 t2 t3 t4 h)
theorem b7i (t0 t1 t2 t3 t4:D) (h:Hp):R a4o [t0,t1,t2,t3,t4] h=b4a t0 t1 t2 t3 t4 h :=
 er i78 (by kernel_rfl) (by kernel_rfl)
noncomputable def b5L (t0:D) (ds:List D) (h_1:Hp):Option Out :=
 (a0j tab .gtr ty3 (nth 1 ds) (.int .i64 0)).bind fun t10=>dIf t10
  ((a0A tab a0E 5 [0,1,2,3,4] [.str [32],.str [32],.str [44,32],.str [61],.str []]).bind fun t14=>(R a3S [t0,.int .i64 5] h_1).bind fun p16=>(a0a tab a0E t14 p16.1).bind fun t17=>(a0c tab p16.2 ty9 t17).bind fun t18=>(R b4Z [t0] p16.2).bind fun p20=>(a0j tab .add ty9 t18 p20.1).bind fun t21=>(a0j tab .add ty9 (nth 0 ds) t21).bind fun t22=>chk (a0c tab p20.2 ty9 t17=some t18)
 ((a0j tab .sub ty3 (nth 1 ds) (.int .i64 1)).bind fun t12=>some (.nrm,[t22,t12,t10],p20.2)))
  (some ((.ext 0),[nth 0 ds,nth 1 ds,t10],h_1))
noncomputable def F96 (t0:D) (h:Hp):Option (D × Hp) :=
 (R b4Z [t0] h).bind fun p6=>(R a3S [t0,.int .i64 4] p6.2).bind fun p8=>((a0B (b5L t0) [p6.1,p8.1,.any] p8.2).bind fun r=>some ((a0v 0 r.1),[nth 0 r.2.1,nth 1 r.2.1,nth 2 r.2.1],r.2.2)).bind fun r_1=>a0z r_1.1 (some (a0i [nth 0 r_1.2.1],r_1.2.2)) fun x=>a0H x (some (a0i [.str []],r_1.2.2))
theorem e96 (t0:D) (h:Hp):R c1N [t0] h=F96 t0 h :=
 er i80 (by kernel_rfl) (by kernel_rfl)
noncomputable def F35 (t0:D) (h:Hp):Option (D × Hp) :=
 (R a3S [t0,.int .i64 4] h).bind fun p4=>(a0j tab .eql ty3 p4.1 (.int .i64 0)).bind fun t6=>dIf t6
  ((R a3S [t0,.int .i64 40] p4.2).bind fun p8=>(a0j tab .mul ty3 p8.1 (.int .i64 86400000)).bind fun t9=>some (a0i [t9],p8.2))
  ((a0j tab .eql ty3 p4.1 (.int .i64 1)).bind fun t11=>dIf t11
  ((R a3S [t0,.int .i64 3] p4.2).bind fun p13=>(a0j tab .mul ty3 p13.1 (.int .i64 86400000)).bind fun t14=>(a0j tab .sub ty3 (.int .i64 253402300799999) t14).bind fun t15=>some (a0i [t15],p13.2))
  ((R a3S [t0,.int .i64 60] p4.2).bind fun p17=>(a0j tab .add ty3 (.int .i64 1000) p17.1).bind fun t18=>some (a0i [t18],p17.2)))
theorem e35 (t0:D) (h:Hp):R c1H [t0] h=F35 t0 h :=
 er i81 (by kernel_rfl) (by kernel_rfl)
noncomputable def F97 (t0:D) (h:Hp):Option (D × Hp) :=
 (a0A tab a0V 6 [0,1,2,3,4,5] [.int .i64 1,.int .i64 1,.int .i64 2,.int .i64 5,.int .i64 10,.int .i64 5040]).bind fun t3=>(R a3S [t0,.int .i64 6] h).bind fun p5=>(a0a tab a0V t3 p5.1).bind fun t6=>(a0c tab p5.2 ty3 t6).bind fun t7=>some (a0i [t7],p5.2)
theorem e97 (t0:D) (h:Hp):R c1O [t0] h=F97 t0 h :=
 er i82 (by kernel_rfl) (by kernel_rfl)
noncomputable def b5M (t0 t4m:D) (ds:List D) (h_1:Hp):Option Out :=
 (a0w tab a0E t4m).bind fun t9=>(a0j tab .lss ty3 (nth 1 ds) t9).bind fun t10=>dIf t10
  ((R a3S [t0,.int .i64 3] h_1).bind fun p14=>(a0j tab .eql ty3 p14.1 (.int .i64 1)).bind fun t15=>(dIf t15
  ((a0a tab a0E t4m (nth 1 ds)).bind fun t19=>(a0c tab p14.2 ty9 t19).bind fun t20=>(R c3G [t0] p14.2).bind fun p22=>(a0P tab a3B [0,1] [t20,p22.1]).bind fun t23=>(a0A tab a5r 1 [0] [t23]).bind fun t24=>(a0p tab p22.2 a5r a5r (nth 0 ds) t24).bind fun p25=>chk (a0c tab p22.2 ty9 t19=some t20)
 (some (.nrm,[p25.1],p25.2)))
  (some (.nrm,[nth 0 ds],p14.2))).bind fun r_1=>a0z (a0v 1 r_1.1) ((a0j tab .add ty3 (nth 1 ds) (.int .i64 1)).bind fun t12=>some (.nrm,[nth 0 r_1.2.1,t12,t10,t15],r_1.2.2)) fun x=>some (x,[nth 0 r_1.2.1,nth 1 ds,t10,t15],r_1.2.2))
  (some ((.ext 0),[nth 0 ds,nth 1 ds,t10,nth 3 ds],h_1))
noncomputable def F98 (t0:D) (h:Hp):Option (D × Hp) :=
 (a0A tab a0E 4 [0,1,2,3] [.str [99,111,100,101],.str [108,101,118,101,108],.str [109,115],.str [117,115,101,114]]).bind fun t6=>((a0B (b5M t0 t6) [.nils,.int .i64 0,.any,.any] h).bind fun r=>some ((a0v 0 r.1),[nth 0 r.2.1,nth 1 r.2.1,nth 2 r.2.1,nth 3 r.2.1],r.2.2)).bind fun r_2=>a0z r_2.1 (scope h r_2.2.2 (a0i [nth 0 r_2.2.1])) fun x_1=>a0H x_1 (scope h r_2.2.2 (a0i [.nils]))
theorem e98 (t0:D) (h:Hp):R c0x [t0] h=F98 t0 h :=
 er i83 (by kernel_rfl) (by kernel_rfl)
noncomputable def a6m (t0 t4 t5:D) (p7:D × Hp) (ds:List D) (h_1:Hp):Option Out :=
 (a0w tab a4v t0).bind fun t17=>(a0j tab .lss ty3 (nth 0 ds) t17).bind fun t18=>dIf t18
  ((a0b tab a0o 1 t4).bind fun t21=>(a0c tab h_1 a0V t21).bind fun t22=>(a0a tab a0V t22 (nth 0 ds)).bind fun t24=>(a0c tab h_1 ty3 t24).bind fun t25=>(a0b tab a0o 2 t4).bind fun t26=>(a0c tab h_1 a0J t26).bind fun t27=>(a0a tab a0J t27 (nth 0 ds)).bind fun t29=>(a0c tab h_1 ty4 t29).bind fun t30=>(gd t30 false (a0b tab a0o 2 t5)).bind fun t32=>(gd t30 false (a0c tab h_1 a0J t32)).bind fun t33=>(gd t30 false (some (nth 0 ds))).bind fun t34=>(gd t30 false (a0a tab a0J t33 t34)).bind fun t35=>(gd t30 false (a0c tab h_1 ty4 t35)).bind fun t36=>(a1g t30 (.bool true) t36).bind fun t37=>(a0a tab a4v t0 (nth 0 ds)).bind fun t40=>(a0b tab a3x 0 t40).bind fun t41=>(a0c tab h_1 ty3 t41).bind fun t42=>(a0j tab .eql ty3 t42 (.int .i64 0)).bind fun t44=>(dIf t44
  (some (.nrm,[t44],h_1))
  ((a0j tab .eql ty3 t42 (.int .i64 1)).bind fun t45=>some (.nrm,[t45],h_1))).bind fun r_1=>a0z r_1.1 ((dIf (nth 0 r_1.2.1)
  ((a0b tab a0o 1 t5).bind fun t47=>(a0c tab r_1.2.2 a0V t47).bind fun t48=>(a0a tab a0V t48 (nth 0 ds)).bind fun t50=>(a0c tab r_1.2.2 ty3 t50).bind fun t51=>(a0j tab .add ty3 t25 t51).bind fun t52=>some (.nrm,[t52,.nils,nth 7 ds,nth 8 ds,nth 9 ds,nth 10 ds,nth 11 ds],r_1.2.2))
  ((a0j tab .eql ty3 t42 (.int .i64 2)).bind fun t54=>(dIf t54
  ((a0b tab a0o 2 t4).bind fun t55=>(a0c tab r_1.2.2 a0J t55).bind fun t56=>(a0a tab a0J t56 (nth 0 ds)).bind fun t58=>(a0c tab r_1.2.2 ty4 t58).bind fun t59=>(dUn .not t59).bind fun t60=>(gd t60 false (a0b tab a0o 2 t5)).bind fun t62=>(gd t60 false (a0c tab r_1.2.2 a0J t62)).bind fun t63=>(gd t60 false (some (nth 0 ds))).bind fun t64=>(gd t60 false (a0a tab a0J t63 t64)).bind fun t65=>(gd t60 false (a0c tab r_1.2.2 ty4 t65)).bind fun t66=>(gd t60 false (some t66)).bind fun t67=>(gd t67 true (a0b tab a0o 1 t5)).bind fun t68=>(gd t67 true (a0c tab r_1.2.2 a0V t68)).bind fun t69=>(gd t67 true (some (nth 0 ds))).bind fun t70=>(gd t67 true (a0a tab a0V t69 t70)).bind fun t71=>(gd t67 true (a0c tab r_1.2.2 ty3 t71)).bind fun t72=>(gd t67 true (some t25)).bind fun t73=>(gd t67 true (a0j tab .lss ty3 t72 t73)).bind fun t74=>(gd t60 false (a1g t67 t74 (.bool false))).bind fun t75=>(a1g t60 (.bool true) t75).bind fun t76=>(dIf t76
  ((a0b tab a0o 1 t5).bind fun t77=>(a0c tab r_1.2.2 a0V t77).bind fun t78=>(a0a tab a0V t78 (nth 0 ds)).bind fun t80=>(a0c tab r_1.2.2 ty3 t80).bind fun t81=>some (.nrm,[t81],r_1.2.2))
  (some (.nrm,[t25],r_1.2.2))).bind fun r_2=>some (r_2.1,[nth 0 r_2.2.1,.nils,t76,nth 9 ds,nth 10 ds,nth 11 ds],r_2.2.2))
  ((a0j tab .eql ty3 t42 (.int .i64 3)).bind fun t83=>(dIf t83
  ((a0b tab a0o 2 t4).bind fun t84=>(a0c tab r_1.2.2 a0J t84).bind fun t85=>(a0a tab a0J t85 (nth 0 ds)).bind fun t87=>(a0c tab r_1.2.2 ty4 t87).bind fun t88=>(dUn .not t88).bind fun t89=>(gd t89 false (a0b tab a0o 2 t5)).bind fun t91=>(gd t89 false (a0c tab r_1.2.2 a0J t91)).bind fun t92=>(gd t89 false (some (nth 0 ds))).bind fun t93=>(gd t89 false (a0a tab a0J t92 t93)).bind fun t94=>(gd t89 false (a0c tab r_1.2.2 ty4 t94)).bind fun t95=>(gd t89 false (some t95)).bind fun t96=>(gd t96 true (a0b tab a0o 1 t5)).bind fun t97=>(gd t96 true (a0c tab r_1.2.2 a0V t97)).bind fun t98=>(gd t96 true (some (nth 0 ds))).bind fun t99=>(gd t96 true (a0a tab a0V t98 t99)).bind fun t100=>(gd t96 true (a0c tab r_1.2.2 ty3 t100)).bind fun t101=>(gd t96 true (some t25)).bind fun t102=>(gd t96 true (a0j tab .gtr ty3 t101 t102)).bind fun t103=>(gd t89 false (a1g t96 t103 (.bool false))).bind fun t104=>(a1g t89 (.bool true) t104).bind fun t105=>(dIf t105
  ((a0b tab a0o 1 t5).bind fun t106=>(a0c tab r_1.2.2 a0V t106).bind fun t107=>(a0a tab a0V t107 (nth 0 ds)).bind fun t109=>(a0c tab r_1.2.2 ty3 t109).bind fun t110=>some (.nrm,[t110],r_1.2.2))
  (some (.nrm,[t25],r_1.2.2))).bind fun r_3=>some (r_3.1,[nth 0 r_3.2.1,.nils,t105,nth 11 ds],r_3.2.2))
  ((a0j tab .eql ty3 t42 (.int .i64 4)).bind fun t112=>(dIf t112
  ((a0b tab a0o 3 t4).bind fun t113=>(a0c tab r_1.2.2 a0O t113).bind fun t114=>(a0a tab a0O t114 (nth 0 ds)).bind fun t116=>(a0c tab r_1.2.2 a0E t116).bind fun t117=>(a0p tab r_1.2.2 a0E a0E (.nils) t117).bind fun p118=>(a0b tab a0o 3 t5).bind fun t119=>(a0c tab p118.2 a0O t119).bind fun t120=>(a0a tab a0O t120 (nth 0 ds)).bind fun t122=>(a0c tab p118.2 a0E t122).bind fun t123=>(a0p tab p118.2 a0E a0E p118.1 t123).bind fun p124=>(R b0h [p124.1] p124.2).bind fun p125=>chk (a0c tab r_1.2.2 a0O t119=some t120)
 (chk (a0c tab r_1.2.2 a0E t122=some t123)
 ((a0w tab a0E p125.1).bind fun t127=>some (.nrm,[t127,p125.1],p125.2))))
  (some (.nrm,[t25,.nils],r_1.2.2))).bind fun r_4=>some (r_4.1,[nth 0 r_4.2.1,nth 1 r_4.2.1,nth 10 ds,t112],r_4.2.2))).bind fun r_5=>some (r_5.1,[nth 0 r_5.2.1,nth 1 r_5.2.1,nth 8 ds,t83,nth 2 r_5.2.1,nth 3 r_5.2.1],r_5.2.2))).bind fun r_6=>some (r_6.1,[nth 0 r_6.2.1,nth 1 r_6.2.1,t54,nth 2 r_6.2.1,nth 3 r_6.2.1,nth 4 r_6.2.1,nth 5 r_6.2.1],r_6.2.2))).bind fun r_7=>a0z (a0v 2 r_7.1) ((a0b tab a0o 1 p7.1).bind fun t128=>(a0c tab r_7.2.2 a0V t128).bind fun t129=>(a0A tab a0V 1 [0] [nth 0 r_7.2.1]).bind fun t131=>(a0p tab r_7.2.2 a0V a0V t129 t131).bind fun p132=>(a0b tab a0o 2 p7.1).bind fun t133=>(a0c tab p132.2 a0J t133).bind fun t134=>(a0A tab a0J 1 [0] [t37]).bind fun t136=>(a0p tab p132.2 a0J a0J t134 t136).bind fun p137=>(a0b tab a0o 3 p7.1).bind fun t138=>(a0c tab p137.2 a0O t138).bind fun t139=>(a0A tab a0O 1 [0] [nth 1 r_7.2.1]).bind fun t141=>(a0p tab p137.2 a0O a0O t139 t141).bind fun p142=>(a0b tab a0o 1 p7.1).bind fun t143=>((a0s tab p142.2 a0V t143 p132.1).bind fun h'=>some ((.und:D),h')).bind fun p916=>(a0b tab a0o 2 p7.1).bind fun t144=>((a0s tab p916.2 a0J t144 p137.1).bind fun h'=>some ((.und:D),h')).bind fun p918=>chk (a0c tab r_7.2.2 a0J t133=some t134)
 (chk (a0c tab r_7.2.2 a0O t138=some t139)
 (chk (a0c tab p132.2 a0O t138=some t139)
 ((a0b tab a0o 3 p7.1).bind fun t145=>((a0s tab p918.2 a0O t145 p142.1).bind fun h'=>some ((.und:D),h')).bind fun p920=>(a0j tab .add ty3 (nth 0 ds) (.int .i64 1)).bind fun t20=>some (.nrm,[t20,nth 0 r_7.2.1,t37,nth 1 r_7.2.1,t18,t42,nth 0 r_1.2.1,nth 2 r_7.2.1,nth 3 r_7.2.1,nth 4 r_7.2.1,nth 5 r_7.2.1,nth 6 r_7.2.1],p920.2))))) fun x_1=>a0z (a0v 1 x_1) ((a0j tab .add ty3 (nth 0 ds) (.int .i64 1)).bind fun t20_1=>some (.nrm,[t20_1,nth 0 r_7.2.1,t37,nth 1 r_7.2.1,t18,t42,nth 0 r_1.2.1,nth 2 r_7.2.1,nth 3 r_7.2.1,nth 4 r_7.2.1,nth 5 r_7.2.1,nth 6 r_7.2.1],r_7.2.2)) fun x_2=>some (x_2,[nth 0 ds,nth 0 r_7.2.1,t37,nth 1 r_7.2.1,t18,t42,nth 0 r_1.2.1,nth 2 r_7.2.1,nth 3 r_7.2.1,nth 4 r_7.2.1,nth 5 r_7.2.1,nth 6 r_7.2.1],r_7.2.2)) fun x=>a0z (a0v 2 x) ((a0b tab a0o 1 p7.1).bind fun t128_1=>(a0c tab r_1.2.2 a0V t128_1).bind fun t129_1=>(a0A tab a0V 1 [0] [t25]).bind fun t131_1=>(a0p tab r_1.2.2 a0V a0V t129_1 t131_1).bind fun p132_1=>(a0b tab a0o 2 p7.1).bind fun t133_1=>(a0c tab p132_1.2 a0J t133_1).bind fun t134_1=>(a0A tab a0J 1 [0] [t37]).bind fun t136_1=>(a0p tab p132_1.2 a0J a0J t134_1 t136_1).bind fun p137_1=>(a0b tab a0o 3 p7.1).bind fun t138_1=>(a0c tab p137_1.2 a0O t138_1).bind fun t139_1=>(a0A tab a0O 1 [0] [.nils]).bind fun t141_1=>(a0p tab p137_1.2 a0O a0O t139_1 t141_1).bind fun p142_1=>(a0b tab a0o 1 p7.1).bind fun t143_1=>((a0s tab p142_1.2 a0V t143_1 p132_1.1).bind fun h'=>some ((.und:D),h')).bind fun p916_1=>(a0b tab a0o 2 p7.1).bind fun t144_1=>((a0s tab p916_1.2 a0J t144_1 p137_1.1).bind fun h'=>some ((.und:D),h')).bind fun p918_1=>chk (a0c tab r_1.2.2 a0J t133_1=some t134_1)
 (chk (a0c tab r_1.2.2 a0O t138_1=some t139_1)
 (chk (a0c tab p132_1.2 a0O t138_1=some t139_1)
 ((a0b tab a0o 3 p7.1).bind fun t145_1=>((a0s tab p918_1.2 a0O t145_1 p142_1.1).bind fun h'=>some ((.und:D),h')).bind fun p920_1=>(a0j tab .add ty3 (nth 0 ds) (.int .i64 1)).bind fun t20_2=>some (.nrm,[t20_2,t25,t37,.nils,t18,t42,nth 0 r_1.2.1,nth 7 ds,nth 8 ds,nth 9 ds,nth 10 ds,nth 11 ds],p920_1.2))))) fun x_3=>a0z (a0v 1 x_3) ((a0j tab .add ty3 (nth 0 ds) (.int .i64 1)).bind fun t20_3=>some (.nrm,[t20_3,t25,t37,.nils,t18,t42,nth 0 r_1.2.1,nth 7 ds,nth 8 ds,nth 9 ds,nth 10 ds,nth 11 ds],r_1.2.2)) fun x_4=>some (x_4,[nth 0 ds,t25,t37,.nils,t18,t42,nth 0 r_1.2.1,nth 7 ds,nth 8 ds,nth 9 ds,nth 10 ds,nth 11 ds],r_1.2.2))
  (some ((.ext 0),[nth 0 ds,nth 1 ds,nth 2 ds,nth 3 ds,t18,nth 5 ds,nth 6 ds,nth 7 ds,nth 8 ds,nth 9 ds,nth 10 ds,nth 11 ds],h_1))
noncomputable def b9o (t0 t1 t2:D) (h:Hp):Option (D × Hp) :=
 (a1H t1).bind fun t4=>(a1H t2).bind fun t5=>(some ((.ptr h.length 0 0:D),a0K h a0o 4 [[.nils,.nils,.nils,.nils]])).bind fun p6=>(a0b tab a0o 0 t4).bind fun t12=>(a0c tab p6.2 a0E t12).bind fun t13=>(a0P tab a0o [0] [t13]).bind fun t14=>(some ((.ptr p6.2.length 0 0:D),a0K p6.2 a0o 4 [[.nils,.nils,.nils,.nils]])).bind fun p7=>((a0s tab p7.2 a0o p7.1 t14).bind fun h'=>some ((.und:D),h')).bind fun p904=>((a0B (a6m t0 t4 t5 p7) [.int .i64 0,.any,.any,.any,.any,.any,.any,.any,.any,.any,.any,.any] p904.2).bind fun r=>some ((a0v 0 r.1),[nth 0 r.2.1,nth 1 r.2.1,nth 2 r.2.1,nth 3 r.2.1,nth 4 r.2.1,nth 5 r.2.1,nth 6 r.2.1,nth 7 r.2.1,nth 8 r.2.1,nth 9 r.2.1,nth 10 r.2.1,nth 11 r.2.1],r.2.2)).bind fun r_8=>a0z r_8.1 ((a0c tab r_8.2.2 a0o p7.1).bind fun t146=>((a0s tab r_8.2.2 a0o p6.1 t146).bind fun h'=>some ((.und:D),h')).bind fun p901=>(a0c tab p901.2 a0o p6.1).bind fun d0=>scope h p901.2 (a0i [d0])) fun x_5=>a0H x_5 ((a0c tab r_8.2.2 a0o p6.1).bind fun d0=>scope h r_8.2.2 (a0i [d0]))
theorem c2W (t0 t1 t2:D) (h:Hp):R b0g [t0,t1,t2] h=b9o t0 t1 t2 h :=
 er i84 (by kernel_rfl) (by kernel_rfl)
noncomputable def b9q (t0 t1:D) (h:Hp):Option (D × Hp) :=
 (a1H t0).bind fun t2=>(a0c tab h a0R t2).bind fun t9=>(R a7N [t9,t1] h).bind fun p11=>(a0D 0 p11.1).bind fun t12=>(a0D 1 p11.1).bind fun t13=>(dUn .not t13).bind fun t15=>dIf t15
  (some (a0i [.int .i64 0,.bool false],p11.2))
  ((R b6a [t12] p11.2).bind fun p17=>(a0D 0 p17.1).bind fun t18=>(a0D 1 p17.1).bind fun t19=>some (a0i [t18,t19],p17.2))
theorem c2Y (t0 t1:D) (h:Hp):R b2t [t0,t1] h=b9q t0 t1 h :=
 er i85 (by kernel_rfl) (by kernel_rfl)
noncomputable def a9z (t0 t2 t4:D) (ds:List D) (h_1:Hp):Option Out :=
 (a0j tab .neq ty3 (nth 0 ds) (nth 1 ds)).bind fun t20=>dIf t20
  ((a0j tab .gtr ty3 (nth 0 ds) (nth 1 ds)).bind fun t23=>(dIf t23
  ((a0j tab .sub ty3 t2 (nth 0 ds)).bind fun t27=>(R a7W [t0,t27,t2,nth 1 ds,t4] h_1).bind fun p31=>(a0j tab .sub ty3 (nth 0 ds) (nth 1 ds)).bind fun t34=>some (.nrm,[t34,nth 1 ds],p31.2))
  ((a0j tab .sub ty3 t2 (nth 0 ds)).bind fun t38=>(a0j tab .add ty3 t2 (nth 1 ds)).bind fun t41=>(a0j tab .sub ty3 t41 (nth 0 ds)).bind fun t43=>(R a7W [t0,t38,t43,nth 0 ds,t4] h_1).bind fun p46=>(a0j tab .sub ty3 (nth 1 ds) (nth 0 ds)).bind fun t49=>some (.nrm,[nth 0 ds,t49],p46.2))).bind fun r_1=>some ((a0v 1 r_1.1),[nth 0 r_1.2.1,nth 1 r_1.2.1,t20,t23],r_1.2.2))
  (some ((.ext 0),[nth 0 ds,nth 1 ds,t20,nth 3 ds],h_1))
noncomputable def b9J (t0 t1 t2 t3 t4:D) (h:Hp):Option (D × Hp) :=
 (a0j tab .sub ty3 t2 t1).bind fun t14=>(a0j tab .sub ty3 t3 t2).bind fun t17=>((a0B (a9z t0 t2 t4) [t14,t17,.any,.any] h).bind fun r=>some ((a0v 0 r.1),[nth 0 r.2.1,nth 1 r.2.1,nth 2 r.2.1,nth 3 r.2.1],r.2.2)).bind fun r_2=>a0z r_2.1 ((a0j tab .sub ty3 t2 (nth 0 r_2.2.1)).bind fun t53=>(R a7W [t0,t53,t2,nth 0 r_2.2.1,t4] r_2.2.2).bind fun p57=>some (a0i [],p57.2)) fun x=>a0H x (some (a0i [],r_2.2.2))
theorem c3t (t0 t1 t2 t3 t4:D) (h:Hp):R b2z [t0,t1,t2,t3,t4] h=b9J t0 t1 t2 t3 t4 h :=
 er i86 (by kernel_rfl) (by kernel_rfl)
noncomputable def c5G (t0:D) (h:Hp):Option (D × Hp) :=
 (a0j tab .neq ty9 t0 t0).bind fun t5=>some (a0i [t5],h)
theorem c6p (t0:D) (h:Hp):R b4Y [t0] h=c5G t0 h :=
 er i87 (by kernel_rfl) (by kernel_rfl)
noncomputable def a7l (t1 t8m t9:D) (ds:List D) (h_1:Hp):Option Out :=
 (a0j tab .lss ty3 (nth 3 ds) t9).bind fun t11=>dIf t11
  ((a0a tab a5r t8m (nth 3 ds)).bind fun t12=>(a0c tab h_1 a3B t12).bind fun t13=>(a7s 2 t13).bind fun t7=>(a0b tab a3B 0 t7).bind fun t14=>(a0c tab h_1 ty9 t14).bind fun t15=>(a0j tab .eql ty9 t15 t1).bind fun t17=>dIf t17
  ((a0b tab a3B 1 t7).bind fun t18=>(a0c tab h_1 ty9 t18).bind fun t19=>some (.ret,[t19,.bool true,t7,nth 3 ds,t11,t17],h_1))
  ((a0j tab .add ty3 (nth 3 ds) (.int .i64 1)).bind fun t20=>some (.nrm,[nth 0 ds,nth 1 ds,t7,t20,t11,t17],h_1)))
  (some ((.ext 0),[nth 0 ds,nth 1 ds,nth 2 ds,nth 3 ds,t11,nth 5 ds],h_1))
noncomputable def F70 (t0 t1:D) (h:Hp):Option (D × Hp) :=
 (a0w tab a5r t0).bind fun t9=>((a0B (a7l t1 t0 t9) [.str [],.bool false,.any,.int .i64 0,.any,.any] h).bind fun r=>some ((a0v 0 r.1),[nth 0 r.2.1,nth 1 r.2.1,nth 2 r.2.1,nth 3 r.2.1,nth 4 r.2.1,nth 5 r.2.1],r.2.2)).bind fun r_1=>a0z r_1.1 (some (a0i [.str [],.bool false],r_1.2.2)) fun x=>a0H x (some (a0i [nth 0 r_1.2.1,nth 1 r_1.2.1],r_1.2.2))
theorem e70 (t0 t1:D) (h:Hp):R c3I [t0,t1] h=F70 t0 t1 h :=
 er i95 (by kernel_rfl) (by kernel_rfl)
noncomputable def a9o (t0 t2 t4:D) (ds:List D) (h_1:Hp):Option Out :=
 (a0j tab .neq ty3 (nth 0 ds) (nth 1 ds)).bind fun t20=>dIf t20
  ((a0j tab .gtr ty3 (nth 0 ds) (nth 1 ds)).bind fun t23=>(dIf t23
  ((a0j tab .sub ty3 t2 (nth 0 ds)).bind fun t27=>(R a7O [t0,t27,t2,nth 1 ds,t4] h_1).bind fun p31=>(a0j tab .sub ty3 (nth 0 ds) (nth 1 ds)).bind fun t34=>some (.nrm,[t34,nth 1 ds],p31.2))
  ((a0j tab .sub ty3 t2 (nth 0 ds)).bind fun t38=>(a0j tab .add ty3 t2 (nth 1 ds)).bind fun t41=>(a0j tab .sub ty3 t41 (nth 0 ds)).bind fun t43=>(R a7O [t0,t38,t43,nth 0 ds,t4] h_1).bind fun p46=>(a0j tab .sub ty3 (nth 1 ds) (nth 0 ds)).bind fun t49=>some (.nrm,[nth 0 ds,t49],p46.2))).bind fun r_1=>some ((a0v 1 r_1.1),[nth 0 r_1.2.1,nth 1 r_1.2.1,t20,t23],r_1.2.2))
  (some ((.ext 0),[nth 0 ds,nth 1 ds,t20,nth 3 ds],h_1))
noncomputable def b9s (t0 t1 t2 t3 t4:D) (h:Hp):Option (D × Hp) :=
 (a0j tab .sub ty3 t2 t1).bind fun t14=>(a0j tab .sub ty3 t3 t2).bind fun t17=>((a0B (a9o t0 t2 t4) [t14,t17,.any,.any] h).bind fun r=>some ((a0v 0 r.1),[nth 0 r.2.1,nth 1 r.2.1,nth 2 r.2.1,nth 3 r.2.1],r.2.2)).bind fun r_2=>a0z r_2.1 ((a0j tab .sub ty3 t2 (nth 0 r_2.2.1)).bind fun t53=>(R a7O [t0,t53,t2,nth 0 r_2.2.1,t4] r_2.2.2).bind fun p57=>some (a0i [],p57.2)) fun x=>a0H x (some (a0i [],r_2.2.2))
theorem c3a (t0 t1 t2 t3 t4:D) (h:Hp):R b2u [t0,t1,t2,t3,t4] h=b9s t0 t1 t2 t3 t4 h :=
 er i96 (by kernel_rfl) (by kernel_rfl)
noncomputable def c5H (t0:D) (h:Hp):Option (D × Hp) :=
 (a0A tab a0E 14 [0,1,2,3,4,5,6,7,8,9,10,11,12,13] [.str [103,101,116],.str [101,114,114,111,114],.str [119,97,114,110],.str [97,49],.str [117,115,101,114,95,55],.str [120],.str [84,105,109,101,111,117,116],.str [50,48,48],.str [71,69,84],.str [101,114,114,111],.str [122],.str [],.str [255],.str [97,46,98]]).bind fun t4=>(a0w tab a0E t4).bind fun t8=>(R a3S [t0,t8] h).bind fun p9=>(a0a tab a0E t4 p9.1).bind fun t10=>(a0c tab p9.2 ty9 t10).bind fun t11=>some (a0i [t11],p9.2)
theorem c6q (t0:D) (h:Hp):R b4Z [t0] h=c5H t0 h :=
 er i98 (by kernel_rfl) (by kernel_rfl)
noncomputable def F33 (t0:D) (h:Hp):Option (D × Hp) :=
 (a0A tab a0E 11 [0,1,2,3,4,5,6,7,8,9,10] [.str [119,97,114,110],.str [105,110,102,111],.str [55],.str [45,51],.str [51,49],.str [],.str [120,32,121],.str [57,57,57,57,57,57,57,57,57,57,57,57,57,57,57,57,57,57],.str [49,48,48,48,48,48,48,48,48,48,48,48,48,48,48,48,48,48,48],.str [48,55],.str [45]]).bind fun t4=>(a0w tab a0E t4).bind fun t8=>(R a3S [t0,t8] h).bind fun p9=>(a0a tab a0E t4 p9.1).bind fun t10=>(a0c tab p9.2 ty9 t10).bind fun t11=>some (a0i [t11],p9.2)
theorem e33 (t0:D) (h:Hp):R c3G [t0] h=F33 t0 h :=
 er i99 (by kernel_rfl) (by kernel_rfl)
noncomputable def c1V (t0:D) (h:Hp):Option (D × Hp) :=
 (a0w tab a0E t0).bind fun t8=>(a0j tab .lss ty3 t8 (.int .i64 2)).bind fun t9=>dIf t9
  ((a0p tab h a0E a0E (.nils) t0).bind fun p11=>scope h p11.2 (a0i [p11.1]))
  ((a0w tab a0E t0).bind fun t13=>(a0j tab .quo ty3 t13 (.int .i64 2)).bind fun t14=>(a0y tab a0E false true false [t0,t14]).bind fun t18=>(R b0h [t18] h).bind fun p19=>(a0y tab a0E true false false [t0,t14]).bind fun t22=>(R b0h [t22] p19.2).bind fun p23=>(R b6b [p19.1,p23.1] p23.2).bind fun p24=>(a0D 0 p24.1).bind fun t25=>(a0D 1 p24.1).bind fun t26=>(a0D 2 p24.1).bind fun t27=>scope h p24.2 (a0i [t25]))
theorem c6s (t0:D) (h:Hp):R b0h [t0] h=c1V t0 h :=
 er c3S (by kernel_rfl) (by kernel_rfl)
noncomputable def c1W (t0:D) (h:Hp):Option (D × Hp) :=
 (R b6c [t0] h).bind fun p5=>(a0D 0 p5.1).bind fun t6=>(a0D 1 p5.1).bind fun t7=>some (a0i [t6,t7],p5.2)
theorem c6t (t0:D) (h:Hp):R b6a [t0] h=c1W t0 h :=
 er c3T (by kernel_rfl) (by kernel_rfl)
noncomputable def a9A (t0 t1 t2 t3:D) (ds:List D) (h_1:Hp):Option Out :=
 (a0j tab .lss ty3 (nth 0 ds) t3).bind fun t13=>dIf t13
  ((a0j tab .add ty3 t1 (nth 0 ds)).bind fun t19=>(a0j tab .add ty3 t2 (nth 0 ds)).bind fun t23=>(a0j tab .add ty3 t2 (nth 0 ds)).bind fun t27=>(a0a tab a0h t0 t27).bind fun t28=>(a0c tab h_1 a0d t28).bind fun t29=>(a0j tab .add ty3 t1 (nth 0 ds)).bind fun t33=>(a0a tab a0h t0 t33).bind fun t34=>(a0c tab h_1 a0d t34).bind fun t35=>(a0a tab a0h t0 t19).bind fun t36=>((a0s tab h_1 a0d t36 t29).bind fun h'=>some ((.und:D),h')).bind fun p921=>(a0a tab a0h t0 t23).bind fun t37=>((a0s tab p921.2 a0d t37 t35).bind fun h'=>some ((.und:D),h')).bind fun p923=>(a0j tab .add ty3 (nth 0 ds) (.int .i64 1)).bind fun t15=>some (.nrm,[t15,t13],p923.2))
  (some ((.ext 0),[nth 0 ds,t13],h_1))
noncomputable def b9K (t0 t1 t2 t3 t4:D) (h:Hp):Option (D × Hp) :=
 ((a0B (a9A t0 t1 t2 t3) [.int .i64 0,.any] h).bind fun r=>some ((a0v 0 r.1),[nth 0 r.2.1,nth 1 r.2.1],r.2.2)).bind fun r_1=>a0H r_1.1 (some (a0i [],r_1.2.2))
theorem c3u (t0 t1 t2 t3 t4:D) (h:Hp):R a7W [t0,t1,t2,t3,t4] h=b9K t0 t1 t2 t3 t4 h :=
 er c3U (by kernel_rfl) (by kernel_rfl)
noncomputable def a9q (t0 t1 t2 t3:D) (ds:List D) (h_1:Hp):Option Out :=
 (a0j tab .lss ty3 (nth 0 ds) t3).bind fun t13=>dIf t13
  ((a0j tab .add ty3 t1 (nth 0 ds)).bind fun t19=>(a0j tab .add ty3 t2 (nth 0 ds)).bind fun t23=>(a0j tab .add ty3 t2 (nth 0 ds)).bind fun t27=>(a0a tab a0t t0 t27).bind fun t28=>(a0c tab h_1 a0k t28).bind fun t29=>(a0j tab .add ty3 t1 (nth 0 ds)).bind fun t33=>(a0a tab a0t t0 t33).bind fun t34=>(a0c tab h_1 a0k t34).bind fun t35=>(a0a tab a0t t0 t19).bind fun t36=>((a0s tab h_1 a0k t36 t29).bind fun h'=>some ((.und:D),h')).bind fun p921=>(a0a tab a0t t0 t23).bind fun t37=>((a0s tab p921.2 a0k t37 t35).bind fun h'=>some ((.und:D),h')).bind fun p923=>(a0j tab .add ty3 (nth 0 ds) (.int .i64 1)).bind fun t15=>some (.nrm,[t15,t13],p923.2))
  (some ((.ext 0),[nth 0 ds,t13],h_1))
noncomputable def b9u (t0 t1 t2 t3 t4:D) (h:Hp):Option (D × Hp) :=
 ((a0B (a9q t0 t1 t2 t3) [.int .i64 0,.any] h).bind fun r=>some ((a0v 0 r.1),[nth 0 r.2.1,nth 1 r.2.1],r.2.2)).bind fun r_1=>a0H r_1.1 (some (a0i [],r_1.2.2))
theorem c3c (t0 t1 t2 t3 t4:D) (h:Hp):R a7O [t0,t1,t2,t3,t4] h=b9u t0 t1 t2 t3 t4 h :=
 er c3V (by kernel_rfl) (by kernel_rfl)
end Go.Proofs.YtehgglgadbmecaaGreatDoor
