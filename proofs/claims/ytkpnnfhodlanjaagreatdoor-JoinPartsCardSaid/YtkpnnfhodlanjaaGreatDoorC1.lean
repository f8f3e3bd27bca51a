/- Functions as Lean functions on data. -/
import Derived.Test.YtkpnnfhodlanjaaGreatDoorB1
set_option linter.unusedSimpArgs false
set_option linter.unusedVariables false
set_option linter.unnecessarySimpa false
set_option maxRecDepth 100000
namespace Go.Proofs.YtkpnnfhodlanjaaGreatDoor
open Go.Eng Go.Pi
noncomputable def b8o (h:Hp):Option (D × Hp) :=
 (a0N tab a0C [5] [.int .i64 5]).bind fun t1=>(a0N tab a0C [5] [.int .i64 7]).bind fun t2=>(R a3O [t1,t2,.int .i64 2] h).bind fun p3=>(gd p3.1 true (a0N tab a0C [5] [.int .i64 5])).bind fun t5=>(gd p3.1 true (a0N tab a0C [5] [.int .i64 7])).bind fun t6=>(gdW p3.1 true p3.2 (R a3O [t5,t6,.int .i64 1] p3.2)).bind fun p7=>(gd p3.1 true (dUn .not p7.1)).bind fun t8=>(a0K p3.1 t8 (.bool false)).bind fun t9=>some (a0m [t9],p7.2)
theorem c2x (h:Hp):R a4S [] h=b8o h :=
 er i6 (by kernel_rfl) (by kernel_rfl)
noncomputable def b8S (t0:D) (h:Hp):Option (D × Hp) :=
 (R c3x [t0,.int .i64 500] h).bind fun p12=>(R c1D [p12.1,.int .i64 6] p12.2).bind fun p14=>(R a2x [p12.1,.int .i64 1] p14.2).bind fun p16=>(R a7F [p16.1,p14.1] p16.2).bind fun p18=>(R a2x [p12.1,.int .i64 1] p18.2).bind fun p20=>(R a7F [p20.1,p14.1] p20.2).bind fun p22=>(R a2f [p12.1,.int .i64 3] p22.2).bind fun p24=>(a0f tab .eql ty3 p24.1 (.int .i64 2)).bind fun t25=>(dIf t25
  (some (.nrm,[p14.1,p14.1],p24.2))
  (some (.nrm,[p18.1,p22.1],p24.2))).bind fun r=>a0y r.1 ((a0J tab a1d 5 [0,1,2,3,4] [.str [64,116,114,97,99,101],.str [117,115,101,114],.str [108,101,118,101,108],.str [64,104,111,115,116],.str [110,111,110,101]]).bind fun t30=>(R a2f [p12.1,.int .i64 5] r.2.2).bind fun p32=>(a0a tab a1d t30 p32.1).bind fun t33=>(a0c tab p32.2 ty9 t33).bind fun t34=>(R a2f [p12.1,.int .i64 80] p32.2).bind fun p36=>chk (a0c tab p36.2 ty9 t33=some t34)
 (some (a0m [nth 0 r.2.1,nth 1 r.2.1,t34,p36.1,p12.1],p36.2))) fun x=>a0M x (some (a0m [.nils,.nils,.str [],.int .i64 0,.nilp],r.2.2))
theorem c3b (t0:D) (h:Hp):R a4n [t0] h=b8S t0 h :=
 er i7 (by kernel_rfl) (by kernel_rfl)
noncomputable def F61 (t0 t1:D) (h:Hp):Option (D × Hp) :=
 (a1Z t0).bind fun t2=>(a1Z t1).bind fun t3=>(a0c tab h a0C t2).bind fun t5=>(a0N tab a2a [1] [t5]).bind fun t6=>(a0c tab h a0C t3).bind fun t7=>(a0N tab a2a [1] [t7]).bind fun t8=>(R c3A [t6,t8] h).bind fun p9=>some (a0m [p9.1],p9.2)
theorem e61 (t0 t1:D) (h:Hp):R b5u [t0,t1] h=F61 t0 t1 h :=
 er i9 (by kernel_rfl) (by kernel_rfl)
noncomputable def F85 (t0 t1:D) (h:Hp):Option (D × Hp) :=
 (a1Z t0).bind fun t2=>(a1Z t1).bind fun t3=>(a0b tab a0C 5 t2).bind fun t6=>(a0c tab h ty3 t6).bind fun t7=>(a0b tab a0C 5 t3).bind fun t8=>(a0c tab h ty3 t8).bind fun t9=>(a0f tab .neq ty3 t7 t9).bind fun t10=>dIf t10
  ((a0b tab a0C 5 t2).bind fun t11=>(a0c tab h ty3 t11).bind fun t12=>(a0b tab a0C 5 t3).bind fun t13=>(a0c tab h ty3 t13).bind fun t14=>(a0f tab .lss ty3 t12 t14).bind fun t15=>some (a0m [t15],h))
  ((a0b tab a0C 0 t2).bind fun t17=>(a0c tab h ty3 t17).bind fun t18=>(a0b tab a0C 0 t3).bind fun t19=>(a0c tab h ty3 t19).bind fun t20=>(a0f tab .neq ty3 t18 t20).bind fun t21=>dIf t21
  ((a0b tab a0C 0 t2).bind fun t22=>(a0c tab h ty3 t22).bind fun t23=>(a0b tab a0C 0 t3).bind fun t24=>(a0c tab h ty3 t24).bind fun t25=>(a0f tab .lss ty3 t23 t25).bind fun t26=>some (a0m [t26],h))
  ((a0b tab a0C 1 t2).bind fun t28=>(a0c tab h ty3 t28).bind fun t29=>(a0b tab a0C 1 t3).bind fun t30=>(a0c tab h ty3 t30).bind fun t31=>(a0f tab .neq ty3 t29 t31).bind fun t32=>dIf t32
  ((a0b tab a0C 1 t2).bind fun t33=>(a0c tab h ty3 t33).bind fun t34=>(a0b tab a0C 1 t3).bind fun t35=>(a0c tab h ty3 t35).bind fun t36=>(a0f tab .lss ty3 t34 t36).bind fun t37=>some (a0m [t37],h))
  ((a0b tab a0C 2 t2).bind fun t38=>(a0c tab h ty3 t38).bind fun t39=>(a0b tab a0C 2 t3).bind fun t40=>(a0c tab h ty3 t40).bind fun t41=>(a0f tab .lss ty3 t39 t41).bind fun t42=>some (a0m [t42],h))))
theorem e85 (t0 t1:D) (h:Hp):R b6E [t0,t1] h=F85 t0 t1 h :=
 er i10 (by kernel_rfl) (by kernel_rfl)
noncomputable def b8q (t0 t1 t2:D) (h:Hp):Option (D × Hp) :=
 (a1Z t0).bind fun t3=>(a1Z t1).bind fun t4=>(a0b tab a0C 5 t3).bind fun t7=>(a0c tab h ty3 t7).bind fun t8=>(a0b tab a0C 5 t4).bind fun t9=>(a0c tab h ty3 t9).bind fun t10=>(a0f tab .sub ty3 t8 t10).bind fun t11=>(a0f tab .leq ty3 t11 t2).bind fun t13=>(gd t13 true (a0b tab a0C 5 t4)).bind fun t15=>(gd t13 true (a0c tab h ty3 t15)).bind fun t16=>(gd t13 true (a0b tab a0C 5 t3)).bind fun t17=>(gd t13 true (a0c tab h ty3 t17)).bind fun t18=>(gd t13 true (a0f tab .sub ty3 t16 t18)).bind fun t19=>(gd t13 true (some t2)).bind fun t20=>(gd t13 true (a0f tab .leq ty3 t19 t20)).bind fun t21=>(a0K t13 t21 (.bool false)).bind fun t22=>some (a0m [t22],h)
theorem c2z (t0 t1 t2:D) (h:Hp):R a3O [t0,t1,t2] h=b8q t0 t1 t2 h :=
 er i11 (by kernel_rfl) (by kernel_rfl)
noncomputable def a9e (t0 t1:D) (ds:List D) (h_1:Hp):Option Out :=
 (a0B tab a0P t0).bind fun t13=>(a0f tab .lss ty3 (nth 1 ds) t13).bind fun t14=>dIf t14
  ((a0a tab a0P t0 (nth 1 ds)).bind fun t19=>(a0b tab a1q 0 t19).bind fun t20=>(a0c tab h_1 a0C t20).bind fun t21=>(a0a tab a0P t1 (nth 1 ds)).bind fun t24=>(a0b tab a1q 0 t24).bind fun t25=>(a0c tab h_1 a0C t25).bind fun t26=>(R b5u [t21,t26] h_1).bind fun p27=>(dUn .not p27.1).bind fun t28=>(gd t28 false (some t0)).bind fun t30=>(gd t28 false (some (nth 1 ds))).bind fun t31=>(gd t28 false (a0a tab a0P t30 t31)).bind fun t32=>(gd t28 false (a0b tab a1q 1 t32)).bind fun t33=>(gd t28 false (a0c tab p27.2 a0C t33)).bind fun t34=>(gd t28 false (some t1)).bind fun t35=>(gd t28 false (some (nth 1 ds))).bind fun t36=>(gd t28 false (a0a tab a0P t35 t36)).bind fun t37=>(gd t28 false (a0b tab a1q 1 t37)).bind fun t38=>(gd t28 false (a0c tab p27.2 a0C t38)).bind fun t39=>(gdW t28 false p27.2 (R b5u [t34,t39] p27.2)).bind fun p40=>(gd t28 false (dUn .not p40.1)).bind fun t41=>(a0K t28 (.bool true) t41).bind fun t42=>dIf t42
  (some (.ret,[.bool false,nth 1 ds,t14,t42],p40.2))
  ((a0f tab .add ty3 (nth 1 ds) (.int .i64 1)).bind fun t16=>some (.nrm,[nth 0 ds,t16,t14,t42],p40.2)))
  (some ((.ext 0),[nth 0 ds,nth 1 ds,t14,nth 3 ds],h_1))
noncomputable def b8T (t0 t1:D) (h:Hp):Option (D × Hp) :=
 (a0B tab a0P t0).bind fun t7=>(a0B tab a0P t1).bind fun t9=>(a0f tab .neq ty3 t7 t9).bind fun t10=>dIf t10
  (some (a0m [.bool false],h))
  (((a0z (a9e t0 t1) [.bool false,.int .i64 0,.any,.any] h).bind fun r=>some ((a0w 0 r.1),[nth 0 r.2.1,nth 1 r.2.1,nth 2 r.2.1,nth 3 r.2.1],r.2.2)).bind fun r_1=>a0y r_1.1 (some (a0m [.bool true],r_1.2.2)) fun x=>a0M x (some (a0m [nth 0 r_1.2.1],r_1.2.2)))
theorem c3c (t0 t1:D) (h:Hp):R a3P [t0,t1] h=b8T t0 t1 h :=
 er i12 (by kernel_rfl) (by kernel_rfl)
noncomputable def F24 (t0 t1:D) (h:Hp):Option (D × Hp) :=
 (R c1E [t0] h).bind fun p7=>(dUn .not p7.1).bind fun t8=>(gd t8 false (some t1)).bind fun t10=>(gd t8 false (a0f tab .lss ty3 t10 (.int .i64 1))).bind fun t11=>(a0K t8 (.bool true) t11).bind fun t12=>dIf t12
  (some (a0m [.int .i64 0],p7.2))
  ((a0R tab t0).bind fun t14=>(a0b tab a3r 0 t14).bind fun t15=>(a0c tab p7.2 a3h t15).bind fun t16=>(a0R tab t0).bind fun t18=>(a0b tab a3r 1 t18).bind fun t19=>(a0c tab p7.2 ty3 t19).bind fun t20=>(a0a tab a3h t16 t20).bind fun t21=>(a0c tab p7.2 ty5 t21).bind fun t22=>(a2e tab ty5 ty3 t22).bind fun t23=>(a0R tab t0).bind fun t25=>(a0b tab a3r 1 t25).bind fun t26=>(a0c tab p7.2 ty3 t26).bind fun t27=>(a0f tab .add ty3 t27 (.int .i64 1)).bind fun t28=>(a0R tab t0).bind fun t29=>(a0b tab a3r 1 t29).bind fun t30=>((a0p tab p7.2 ty3 t30 t28).bind fun h'=>some ((.und:D),h')).bind fun p907=>(a0f tab .mul ty3 t23 t1).bind fun t33=>(a0f tab .quo ty3 t33 (.int .i64 256)).bind fun t34=>some (a0m [t34],p907.2))
theorem e24 (t0 t1:D) (h:Hp):R a2f [t0,t1] h=F24 t0 t1 h :=
 er i13 (by kernel_rfl) (by kernel_rfl)
noncomputable def F44 (t0 t1:D) (h:Hp):Option (D × Hp) :=
 (a0B tab a3h t0).bind fun t7=>(b5o t7 t1).bind fun t9=>(a0E tab a3h false true false [t0,t9]).bind fun t10=>(a0N tab a3r [0] [t10]).bind fun t11=>(c5d a3r 2 h t11).bind fun p12=>some (a0m [p12.1],p12.2)
theorem e44 (t0 t1:D) (h:Hp):R c3x [t0,t1] h=F44 t0 t1 h :=
 er i14 (by kernel_rfl) (by kernel_rfl)
noncomputable def b0P (t7m:D) (ds_1:List D) (ds_2:List D) (h_3:Hp):Option Out :=
 (a0a tab a3D t7m (nth 1 ds_1)).bind fun t30=>(a0c tab h_3 a2n t30).bind fun t31=>(a0B tab a2n t31).bind fun t32=>(a0f tab .lss ty3 (nth 1 ds_2) t32).bind fun t33=>dIf t33
  ((a0a tab a3D t7m (nth 1 ds_1)).bind fun t38=>(a0c tab h_3 a2n t38).bind fun t39=>(a0a tab a2n t39 (nth 1 ds_2)).bind fun t41=>(a0b tab a2a 0 t41).bind fun t42=>(a0c tab h_3 ty9 t42).bind fun t43=>(a0f tab .eql ty9 t43 (.str [])).bind fun t44=>(dIf t44
  ((a0a tab a3D t7m (nth 1 ds_1)).bind fun t48=>(a0c tab h_3 a2n t48).bind fun t49=>(a0a tab a2n t49 (nth 1 ds_2)).bind fun t51=>(a0b tab a2a 1 t51).bind fun t52=>(a0c tab h_3 a0C t52).bind fun t53=>(R c1F [nth 0 ds_2,t53] h_3).bind fun p54=>some (.nrm,[p54.1],p54.2))
  (some (.nrm,[nth 0 ds_2],h_3))).bind fun r_3=>a0y (a0w 5 r_3.1) ((a0f tab .add ty3 (nth 1 ds_2) (.int .i64 1)).bind fun t35=>some (.nrm,[nth 0 r_3.2.1,t35,t33,t44],r_3.2.2)) fun x=>some (x,[nth 0 r_3.2.1,nth 1 ds_2,t33,t44],r_3.2.2))
  (some ((.ext 4),[nth 0 ds_2,nth 1 ds_2,t33,nth 3 ds_2],h_3))
noncomputable def b0O (t7m:D) (ds_1:List D) (h_2:Hp):Option Out :=
 (a0B tab a3D t7m).bind fun t23=>(a0f tab .lss ty3 (nth 1 ds_1) t23).bind fun t24=>dIf t24
  (((a0z (b0P t7m ds_1) [nth 0 ds_1,.int .i64 0,nth 4 ds_1,nth 5 ds_1] h_2).bind fun r_2=>some ((a0w 4 r_2.1),[nth 0 r_2.2.1,nth 1 r_2.2.1,nth 2 r_2.2.1,nth 3 r_2.2.1],r_2.2.2)).bind fun r_4=>a0y (a0w 3 r_4.1) ((a0f tab .add ty3 (nth 1 ds_1) (.int .i64 1)).bind fun t26=>some (.nrm,[nth 0 r_4.2.1,t26,nth 1 r_4.2.1,t24,nth 2 r_4.2.1,nth 3 r_4.2.1],r_4.2.2)) fun x_1=>some (x_1,[nth 0 r_4.2.1,nth 1 ds_1,nth 1 r_4.2.1,t24,nth 2 r_4.2.1,nth 3 r_4.2.1],r_4.2.2))
  (some ((.ext 2),[nth 0 ds_1,nth 1 ds_1,nth 2 ds_1,t24,nth 4 ds_1,nth 5 ds_1],h_2))
noncomputable def b5a (t0 t1:D) (ds:List D) (h_1:Hp):Option Out :=
 (R a2f [t0,.int .i64 2] h_1).bind fun p12=>(a0f tab .add ty3 (.int .i64 1) p12.1).bind fun t13=>(a0f tab .leq ty3 (nth 1 ds) t13).bind fun t14=>dIf t14
  ((R b9L [t0,nth 1 ds,t1] p12.2).bind fun p20=>((a0z (b0O p20.1) [nth 0 ds,.int .i64 0,nth 4 ds,nth 6 ds,nth 7 ds,nth 8 ds] p20.2).bind fun r_1=>some ((a0w 2 r_1.1),[nth 0 r_1.2.1,nth 1 r_1.2.1,nth 2 r_1.2.1,nth 3 r_1.2.1,nth 4 r_1.2.1,nth 5 r_1.2.1],r_1.2.2)).bind fun r_5=>a0y (a0w 1 r_5.1) ((a0f tab .add ty3 (nth 1 ds) (.int .i64 1)).bind fun t16=>some (.nrm,[nth 0 r_5.2.1,t16,p20.1,nth 1 r_5.2.1,nth 2 r_5.2.1,t14,nth 3 r_5.2.1,nth 4 r_5.2.1,nth 5 r_5.2.1],r_5.2.2)) fun x_2=>some (x_2,[nth 0 r_5.2.1,nth 1 ds,p20.1,nth 1 r_5.2.1,nth 2 r_5.2.1,t14,nth 3 r_5.2.1,nth 4 r_5.2.1,nth 5 r_5.2.1],r_5.2.2))
  (some ((.ext 0),[nth 0 ds,nth 1 ds,nth 2 ds,nth 3 ds,nth 4 ds,t14,nth 6 ds,nth 7 ds,nth 8 ds],p12.2))
noncomputable def F48 (t0 t1:D) (h:Hp):Option (D × Hp) :=
 ((a0z (b5a t0 t1) [.nils,.int .i64 1,.any,.any,.any,.any,.any,.any,.any] h).bind fun r=>some ((a0w 0 r.1),[nth 0 r.2.1,nth 1 r.2.1,nth 2 r.2.1,nth 3 r.2.1,nth 4 r.2.1,nth 5 r.2.1,nth 6 r.2.1,nth 7 r.2.1,nth 8 r.2.1],r.2.2)).bind fun r_6=>a0y r_6.1 (some (a0m [nth 0 r_6.2.1],r_6.2.2)) fun x_3=>a0M x_3 (some (a0m [.nils],r_6.2.2))
theorem e48 (t0 t1:D) (h:Hp):R c1D [t0,t1] h=F48 t0 t1 h :=
 er i15 (by kernel_rfl) (by kernel_rfl)
noncomputable def a9f (t1 t2:D) (ds:List D) (h_1:Hp):Option Out :=
 (a0B tab a2o t1).bind fun t9=>(a0f tab .lss ty3 (nth 1 ds) t9).bind fun t10=>dIf t10
  ((a0c tab h_1 a0l t2).bind fun t13=>(a0a tab a2o t1 (nth 1 ds)).bind fun t16=>(a0c tab h_1 a0C t16).bind fun t17=>(R a3v [t13,t17] h_1).bind fun p18=>(dIf p18.1
  ((a0a tab a2o t1 (nth 1 ds)).bind fun t22=>(a0c tab p18.2 a0C t22).bind fun t23=>(a0J tab a2o 1 [0] [t23]).bind fun t24=>(a0D tab p18.2 a2o a2o (nth 0 ds) t24).bind fun p25=>some (.nrm,[p25.1],p25.2))
  (some (.nrm,[nth 0 ds],p18.2))).bind fun r_1=>a0y (a0w 1 r_1.1) ((a0f tab .add ty3 (nth 1 ds) (.int .i64 1)).bind fun t12=>some (.nrm,[nth 0 r_1.2.1,t12,t10,p18.1],r_1.2.2)) fun x=>some (x,[nth 0 r_1.2.1,nth 1 ds,t10,p18.1],r_1.2.2))
  (some ((.ext 0),[nth 0 ds,nth 1 ds,t10,nth 3 ds],h_1))
noncomputable def b8U (t0 t1:D) (h:Hp):Option (D × Hp) :=
 (a1Z t0).bind fun t2=>((a0z (a9f t1 t2) [.nils,.int .i64 0,.any,.any] h).bind fun r=>some ((a0w 0 r.1),[nth 0 r.2.1,nth 1 r.2.1,nth 2 r.2.1,nth 3 r.2.1],r.2.2)).bind fun r_2=>a0y r_2.1 (scope h r_2.2.2 (a0m [nth 0 r_2.2.1])) fun x_1=>a0M x_1 (scope h r_2.2.2 (a0m [.nils]))
theorem c3d (t0 t1:D) (h:Hp):R a7F [t0,t1] h=b8U t0 t1 h :=
 er i16 (by kernel_rfl) (by kernel_rfl)
noncomputable def b3E (t0 t1:D) (p7:D × Hp) (ds:List D) (h_1:Hp):Option Out :=
 (a0f tab .gtr ty3 (nth 0 ds) (.int .i64 0)).bind fun t118=>dIf t118
  ((a0b tab a0l 4 p7.1).bind fun t121=>(a0c tab h_1 a0I t121).bind fun t122=>(a0f tab .sub ty3 t1 (.int .i64 1)).bind fun t125=>(R a2x [t0,t125] h_1).bind fun p126=>(a0J tab a0I 1 [0] [p126.1]).bind fun t127=>(a0D tab p126.2 a0I a0I t122 t127).bind fun p128=>chk (a0c tab p126.2 a0I t121=some t122)
 ((a0b tab a0l 4 p7.1).bind fun t129=>((a0p tab p128.2 a0I t129 p128.1).bind fun h'=>some ((.und:D),h')).bind fun p909=>(a0f tab .sub ty3 (nth 0 ds) (.int .i64 1)).bind fun t120=>some (.nrm,[t120,t118],p909.2)))
  (some ((.ext 1),[nth 0 ds,t118],h_1))
noncomputable def b3F (t0 t1:D) (p7_1:D × Hp) (ds_1:List D) (h_2:Hp):Option Out :=
 (a0f tab .gtr ty3 (nth 0 ds_1) (.int .i64 0)).bind fun t118_1=>dIf t118_1
  ((a0b tab a0l 4 p7_1.1).bind fun t121_1=>(a0c tab h_2 a0I t121_1).bind fun t122_1=>(a0f tab .sub ty3 t1 (.int .i64 1)).bind fun t125_1=>(R a2x [t0,t125_1] h_2).bind fun p126_1=>(a0J tab a0I 1 [0] [p126_1.1]).bind fun t127_1=>(a0D tab p126_1.2 a0I a0I t122_1 t127_1).bind fun p128_1=>chk (a0c tab p126_1.2 a0I t121_1=some t122_1)
 ((a0b tab a0l 4 p7_1.1).bind fun t129_1=>((a0p tab p128_1.2 a0I t129_1 p128_1.1).bind fun h'=>some ((.und:D),h')).bind fun p909_1=>(a0f tab .sub ty3 (nth 0 ds_1) (.int .i64 1)).bind fun t120_1=>some (.nrm,[t120_1,t118_1],p909_1.2)))
  (some ((.ext 1),[nth 0 ds_1,t118_1],h_2))
noncomputable def a9g (t0 t1:D) (p7_2:D × Hp) (ds_2:List D) (h_3:Hp):Option Out :=
 (a0f tab .gtr ty3 (nth 0 ds_2) (.int .i64 0)).bind fun t118_2=>dIf t118_2
  ((a0b tab a0l 4 p7_2.1).bind fun t121_2=>(a0c tab h_3 a0I t121_2).bind fun t122_2=>(a0f tab .sub ty3 t1 (.int .i64 1)).bind fun t125_2=>(R a2x [t0,t125_2] h_3).bind fun p126_2=>(a0J tab a0I 1 [0] [p126_2.1]).bind fun t127_2=>(a0D tab p126_2.2 a0I a0I t122_2 t127_2).bind fun p128_2=>chk (a0c tab p126_2.2 a0I t121_2=some t122_2)
 ((a0b tab a0l 4 p7_2.1).bind fun t129_2=>((a0p tab p128_2.2 a0I t129_2 p128_2.1).bind fun h'=>some ((.und:D),h')).bind fun p909_2=>(a0f tab .sub ty3 (nth 0 ds_2) (.int .i64 1)).bind fun t120_2=>some (.nrm,[t120_2,t118_2],p909_2.2)))
  (some ((.ext 1),[nth 0 ds_2,t118_2],h_3))
noncomputable def b3G (t0 t1:D) (p7_3:D × Hp) (ds_3:List D) (h_4:Hp):Option Out :=
 (a0f tab .gtr ty3 (nth 0 ds_3) (.int .i64 0)).bind fun t118_3=>dIf t118_3
  ((a0b tab a0l 4 p7_3.1).bind fun t121_3=>(a0c tab h_4 a0I t121_3).bind fun t122_3=>(a0f tab .sub ty3 t1 (.int .i64 1)).bind fun t125_3=>(R a2x [t0,t125_3] h_4).bind fun p126_3=>(a0J tab a0I 1 [0] [p126_3.1]).bind fun t127_3=>(a0D tab p126_3.2 a0I a0I t122_3 t127_3).bind fun p128_3=>chk (a0c tab p126_3.2 a0I t121_3=some t122_3)
 ((a0b tab a0l 4 p7_3.1).bind fun t129_3=>((a0p tab p128_3.2 a0I t129_3 p128_3.1).bind fun h'=>some ((.und:D),h')).bind fun p909_3=>(a0f tab .sub ty3 (nth 0 ds_3) (.int .i64 1)).bind fun t120_3=>some (.nrm,[t120_3,t118_3],p909_3.2)))
  (some ((.ext 1),[nth 0 ds_3,t118_3],h_4))
noncomputable def b3H (t0 t1:D) (p7_4:D × Hp) (ds_4:List D) (h_5:Hp):Option Out :=
 (a0f tab .gtr ty3 (nth 0 ds_4) (.int .i64 0)).bind fun t118_4=>dIf t118_4
  ((a0b tab a0l 4 p7_4.1).bind fun t121_4=>(a0c tab h_5 a0I t121_4).bind fun t122_4=>(a0f tab .sub ty3 t1 (.int .i64 1)).bind fun t125_4=>(R a2x [t0,t125_4] h_5).bind fun p126_4=>(a0J tab a0I 1 [0] [p126_4.1]).bind fun t127_4=>(a0D tab p126_4.2 a0I a0I t122_4 t127_4).bind fun p128_4=>chk (a0c tab p126_4.2 a0I t121_4=some t122_4)
 ((a0b tab a0l 4 p7_4.1).bind fun t129_4=>((a0p tab p128_4.2 a0I t129_4 p128_4.1).bind fun h'=>some ((.und:D),h')).bind fun p909_4=>(a0f tab .sub ty3 (nth 0 ds_4) (.int .i64 1)).bind fun t120_4=>some (.nrm,[t120_4,t118_4],p909_4.2)))
  (some ((.ext 1),[nth 0 ds_4,t118_4],h_5))
noncomputable def b3I (t0 t1:D) (p7_5:D × Hp) (ds_5:List D) (h_6:Hp):Option Out :=
 (a0f tab .gtr ty3 (nth 0 ds_5) (.int .i64 0)).bind fun t118_5=>dIf t118_5
  ((a0b tab a0l 4 p7_5.1).bind fun t121_5=>(a0c tab h_6 a0I t121_5).bind fun t122_5=>(a0f tab .sub ty3 t1 (.int .i64 1)).bind fun t125_5=>(R a2x [t0,t125_5] h_6).bind fun p126_5=>(a0J tab a0I 1 [0] [p126_5.1]).bind fun t127_5=>(a0D tab p126_5.2 a0I a0I t122_5 t127_5).bind fun p128_5=>chk (a0c tab p126_5.2 a0I t121_5=some t122_5)
 ((a0b tab a0l 4 p7_5.1).bind fun t129_5=>((a0p tab p128_5.2 a0I t129_5 p128_5.1).bind fun h'=>some ((.und:D),h')).bind fun p909_5=>(a0f tab .sub ty3 (nth 0 ds_5) (.int .i64 1)).bind fun t120_5=>some (.nrm,[t120_5,t118_5],p909_5.2)))
  (some ((.ext 1),[nth 0 ds_5,t118_5],h_6))
noncomputable def b8V (t0 t1:D) (h:Hp):Option (D × Hp) :=
 (some ((.ptr h.length 0 0:D),a1h h a0l 5 [[.int .i64 0,.str [],.str [],.int .i64 0,.nils]])).bind fun p4=>(R a2f [t0,.int .i64 15] p4.2).bind fun p10=>(a0f tab .eql ty3 t1 (.int .i64 0)).bind fun t12=>(dIf t12
  ((R a2f [t0,.int .i64 10] p10.2).bind fun p14=>some (.nrm,[p14.1],p14.2))
  (some (.nrm,[p10.1],p10.2))).bind fun r=>a0y r.1 ((a0f tab .eql ty3 (nth 0 r.2.1) (.int .i64 0)).bind fun t17=>(dIf t17
  (some (.nrm,[t17],r.2.2))
  ((a0f tab .eql ty3 (nth 0 r.2.1) (.int .i64 1)).bind fun t18=>some (.nrm,[t18],r.2.2))).bind fun r_1=>a0y r_1.1 (dIf (nth 0 r_1.2.1)
  ((a0J tab a1d 6 [0,1,2,3,4,5] [.str [103,101,116],.str [101,114,114,111,114],.str [119,97,114,110],.str [97,49],.str [50,48,48],.str [110,111,116,104,105,110,103]]).bind fun t19=>(R a2f [t0,.int .i64 6] r_1.2.2).bind fun p21=>(a0a tab a1d t19 p21.1).bind fun t22=>(a0c tab p21.2 ty9 t22).bind fun t23=>(a0N tab a0l [0,2] [.int .i64 1,t23]).bind fun t24=>((a0p tab p21.2 a0l p4.1 t24).bind fun h'=>some ((.und:D),h')).bind fun p906=>(a0c tab p906.2 a0l p4.1).bind fun d0=>scope h p906.2 (a0m [d0]))
  ((a0f tab .eql ty3 (nth 0 r.2.1) (.int .i64 2)).bind fun t26=>dIf t26
  ((a0J tab a1d 5 [0,1,2,3,4] [.str [101],.str [101,114,114],.str [117],.str [50],.str [113]]).bind fun t27=>(R a2f [t0,.int .i64 5] r_1.2.2).bind fun p29=>(a0a tab a1d t27 p29.1).bind fun t30=>(a0c tab p29.2 ty9 t30).bind fun t31=>(a0N tab a0l [0,2] [.int .i64 2,t31]).bind fun t32=>((a0p tab p29.2 a0l p4.1 t32).bind fun h'=>some ((.und:D),h')).bind fun p906_1=>(a0c tab p906_1.2 a0l p4.1).bind fun d0=>scope h p906_1.2 (a0m [d0]))
  ((a0f tab .eql ty3 (nth 0 r.2.1) (.int .i64 3)).bind fun t34=>dIf t34
  ((a0J tab a1d 5 [0,1,2,3,4] [.str [114],.str [71,69,84],.str [32],.str [84],.str [111,32,111]]).bind fun t35=>(R a2f [t0,.int .i64 5] r_1.2.2).bind fun p37=>(a0a tab a1d t35 p37.1).bind fun t38=>(a0c tab p37.2 ty9 t38).bind fun t39=>(a0N tab a0l [0,2] [.int .i64 3,t39]).bind fun t40=>((a0p tab p37.2 a0l p4.1 t40).bind fun h'=>some ((.und:D),h')).bind fun p906_2=>(a0c tab p906_2.2 a0l p4.1).bind fun d0=>scope h p906_2.2 (a0m [d0]))
  ((a0f tab .eql ty3 (nth 0 r.2.1) (.int .i64 4)).bind fun t42=>(dIf t42
  (some (.nrm,[t42],r_1.2.2))
  ((a0f tab .eql ty3 (nth 0 r.2.1) (.int .i64 5)).bind fun t43=>some (.nrm,[t43],r_1.2.2))).bind fun r_2=>a0y r_2.1 (dIf (nth 0 r_2.2.1)
  ((R a2f [t0,.int .i64 4] r_2.2.2).bind fun p45=>(a0f tab .eql ty3 p45.1 (.int .i64 3)).bind fun t46=>dIf t46
  ((a0J tab a1d 4 [0,1,2,3] [.str [64,104,111,115,116],.str [64,115,116,114,101,97,109],.str [64,116,114,97,99,101],.str [64,119,101,105,103,104,116]]).bind fun t47=>(R a2f [t0,.int .i64 4] p45.2).bind fun p49=>(a0a tab a1d t47 p49.1).bind fun t50=>(a0c tab p49.2 ty9 t50).bind fun t51=>(a0J tab a1d 4 [0,1,2,3] [.str [49],.str [109,97,105,110],.str [116,49],.str [50]]).bind fun t52=>(R a2f [t0,.int .i64 4] p49.2).bind fun p54=>(a0a tab a1d t52 p54.1).bind fun t55=>(a0c tab p54.2 ty9 t55).bind fun t56=>(a0N tab a0l [0,1,2] [.int .i64 4,t51,t56]).bind fun t57=>chk (a0c tab p54.2 ty9 t50=some t51)
 (((a0p tab p54.2 a0l p4.1 t57).bind fun h'=>some ((.und:D),h')).bind fun p911=>(a0c tab p911.2 a0l p4.1).bind fun d0=>scope h p911.2 (a0m [d0])))
  ((R a7A [t0] p45.2).bind fun p59=>(R c1B [t0] p59.2).bind fun p61=>(a0N tab a0l [0,1,2] [.int .i64 4,p59.1,p61.1]).bind fun t62=>((a0p tab p61.2 a0l p4.1 t62).bind fun h'=>some ((.und:D),h')).bind fun p905=>(a0c tab p905.2 a0l p4.1).bind fun d0=>scope h p905.2 (a0m [d0])))
  ((a0f tab .eql ty3 (nth 0 r.2.1) (.int .i64 6)).bind fun t64=>dIf t64
  ((R a7A [t0] r_2.2.2).bind fun p66=>(a0N tab a0l [0,1] [.int .i64 8,p66.1]).bind fun t67=>((a0p tab p66.2 a0l p4.1 t67).bind fun h'=>some ((.und:D),h')).bind fun p903=>(a0c tab p903.2 a0l p4.1).bind fun d0=>scope h p903.2 (a0m [d0]))
  ((a0f tab .eql ty3 (nth 0 r.2.1) (.int .i64 7)).bind fun t69=>(dIf t69
  (some (.nrm,[t69],r_2.2.2))
  ((a0f tab .eql ty3 (nth 0 r.2.1) (.int .i64 8)).bind fun t70=>some (.nrm,[t70],r_2.2.2))).bind fun r_3=>a0y r_3.1 (dIf (nth 0 r_3.2.1)
  ((R a2f [t0,.int .i64 3] r_3.2.2).bind fun p72=>(a0f tab .add ty3 (.int .i64 9) p72.1).bind fun t73=>(R a7A [t0] p72.2).bind fun p75=>(R a2f [t0,.int .i64 40] p75.2).bind fun p77=>(a0f tab .sub ty3 p77.1 (.int .i64 5)).bind fun t78=>(a0N tab a0l [0,1,3] [t73,p75.1,t78]).bind fun t79=>(some ((.ptr p77.2.length 0 0:D),a1h p77.2 a0l 5 [[.int .i64 0,.str [],.str [],.int .i64 0,.nils]])).bind fun p6=>((a0p tab p6.2 a0l p6.1 t79).bind fun h'=>some ((.und:D),h')).bind fun p910=>(R a2f [t0,.int .i64 2] p910.2).bind fun p81=>(a0f tab .eql ty3 p81.1 (.int .i64 1)).bind fun t82=>(dIf t82
  ((R a2f [t0,.int .i64 70] p81.2).bind fun p84=>(a0f tab .add ty3 (.int .i64 995) p84.1).bind fun t85=>(a0b tab a0l 1 p6.1).bind fun t86=>((a0p tab p84.2 ty9 t86 (.str [64,116,105,109,101])).bind fun h'=>some ((.und:D),h')).bind fun p904=>(a0b tab a0l 3 p6.1).bind fun t87=>((a0p tab p904.2 ty3 t87 t85).bind fun h'=>some ((.und:D),h')).bind fun p906_3=>some (.nrm,([]:List D),p906_3.2))
  (some (.nrm,([]:List D),p81.2))).bind fun r_4=>a0y r_4.1 ((R a2f [t0,.int .i64 8] r_4.2.2).bind fun p89=>(a0f tab .eql ty3 p89.1 (.int .i64 7)).bind fun t90=>(dIf t90
  ((a0J tab a3t 3 [0,1,2] [.int .i64 (-5),.int .i64 253402300799999,.int .i64 999999999999999999]).bind fun t91=>(R a2f [t0,.int .i64 3] p89.2).bind fun p93=>(a0a tab a3t t91 p93.1).bind fun t94=>(a0c tab p93.2 ty3 t94).bind fun t95=>(a0b tab a0l 1 p6.1).bind fun t96=>((a0p tab p93.2 ty9 t96 (.str [64,116,105,109,101])).bind fun h'=>some ((.und:D),h')).bind fun p906_4=>chk (a0c tab p906_4.2 ty3 t94=some t95)
 ((a0b tab a0l 3 p6.1).bind fun t97=>((a0p tab p906_4.2 ty3 t97 t95).bind fun h'=>some ((.und:D),h')).bind fun p908=>some (.nrm,([]:List D),p908.2)))
  (some (.nrm,([]:List D),p89.2))).bind fun r_5=>a0y r_5.1 ((a0c tab r_5.2.2 a0l p6.1).bind fun t98=>((a0p tab r_5.2.2 a0l p4.1 t98).bind fun h'=>some ((.und:D),h')).bind fun p901=>(a0c tab p901.2 a0l p4.1).bind fun d0=>scope h p901.2 (a0m [d0])) fun x_5=>a0y (a0w 0 x_5) ((a0f tab .rem ty3 (nth 0 r.2.1) (.int .i64 2)).bind fun t111=>(a0f tab .add ty3 (.int .i64 6) t111).bind fun t112=>(a0N tab a0l [0] [t112]).bind fun t113=>(some ((.ptr r_5.2.2.length 0 0:D),a1h r_5.2.2 a0l 5 [[.int .i64 0,.str [],.str [],.int .i64 0,.nils]])).bind fun p7=>((a0p tab p7.2 a0l p7.1 t113).bind fun h'=>some ((.und:D),h')).bind fun p905_1=>(R a2f [t0,.int .i64 2] p905_1.2).bind fun p115=>(a0f tab .add ty3 (.int .i64 2) p115.1).bind fun t116=>((a0z (b3E t0 t1 p7) [t116,.any] p115.2).bind fun r_6=>some ((a0w 1 r_6.1),[nth 0 r_6.2.1,nth 1 r_6.2.1],r_6.2.2)).bind fun r_7=>a0y r_7.1 ((a0c tab r_7.2.2 a0l p7.1).bind fun t130=>((a0p tab r_7.2.2 a0l p4.1 t130).bind fun h'=>some ((.und:D),h')).bind fun p901_1=>(a0c tab p901_1.2 a0l p4.1).bind fun d0=>scope h p901_1.2 (a0m [d0])) fun x_7=>a0M x_7 ((a0c tab r_7.2.2 a0l p4.1).bind fun d0=>scope h r_7.2.2 (a0m [d0]))) fun x_6=>a0M x_6 ((a0c tab r_5.2.2 a0l p4.1).bind fun d0=>scope h r_5.2.2 (a0m [d0]))) fun x_4=>a0y (a0w 0 x_4) ((a0f tab .rem ty3 (nth 0 r.2.1) (.int .i64 2)).bind fun t111_1=>(a0f tab .add ty3 (.int .i64 6) t111_1).bind fun t112_1=>(a0N tab a0l [0] [t112_1]).bind fun t113_1=>(some ((.ptr r_4.2.2.length 0 0:D),a1h r_4.2.2 a0l 5 [[.int .i64 0,.str [],.str [],.int .i64 0,.nils]])).bind fun p7_1=>((a0p tab p7_1.2 a0l p7_1.1 t113_1).bind fun h'=>some ((.und:D),h')).bind fun p905_2=>(R a2f [t0,.int .i64 2] p905_2.2).bind fun p115_1=>(a0f tab .add ty3 (.int .i64 2) p115_1.1).bind fun t116_1=>((a0z (b3F t0 t1 p7_1) [t116_1,.any] p115_1.2).bind fun r_8=>some ((a0w 1 r_8.1),[nth 0 r_8.2.1,nth 1 r_8.2.1],r_8.2.2)).bind fun r_9=>a0y r_9.1 ((a0c tab r_9.2.2 a0l p7_1.1).bind fun t130_1=>((a0p tab r_9.2.2 a0l p4.1 t130_1).bind fun h'=>some ((.und:D),h')).bind fun p901_2=>(a0c tab p901_2.2 a0l p4.1).bind fun d0=>scope h p901_2.2 (a0m [d0])) fun x_9=>a0M x_9 ((a0c tab r_9.2.2 a0l p4.1).bind fun d0=>scope h r_9.2.2 (a0m [d0]))) fun x_8=>a0M x_8 ((a0c tab r_4.2.2 a0l p4.1).bind fun d0=>scope h r_4.2.2 (a0m [d0])))
  ((a0f tab .eql ty3 (nth 0 r.2.1) (.int .i64 9)).bind fun t100=>dIf t100
  ((a0N tab a0l [] []).bind fun t101=>((a0p tab r_3.2.2 a0l p4.1 t101).bind fun h'=>some ((.und:D),h')).bind fun p901_3=>(a0c tab p901_3.2 a0l p4.1).bind fun d0=>scope h p901_3.2 (a0m [d0]))
  ((a0f tab .eql ty3 (nth 0 r.2.1) (.int .i64 10)).bind fun t103=>dIf t103
  ((a0f tab .sub ty3 t1 (.int .i64 1)).bind fun t106=>(R a2x [t0,t106] r_3.2.2).bind fun p107=>(a0J tab a0I 1 [0] [p107.1]).bind fun t108=>(a0N tab a0l [0,4] [.int .i64 5,t108]).bind fun t109=>((a0p tab p107.2 a0l p4.1 t109).bind fun h'=>some ((.und:D),h')).bind fun p906_5=>(a0c tab p906_5.2 a0l p4.1).bind fun d0=>scope h p906_5.2 (a0m [d0]))
  ((a0f tab .rem ty3 (nth 0 r.2.1) (.int .i64 2)).bind fun t111_2=>(a0f tab .add ty3 (.int .i64 6) t111_2).bind fun t112_2=>(a0N tab a0l [0] [t112_2]).bind fun t113_2=>(some ((.ptr r_3.2.2.length 0 0:D),a1h r_3.2.2 a0l 5 [[.int .i64 0,.str [],.str [],.int .i64 0,.nils]])).bind fun p7_2=>((a0p tab p7_2.2 a0l p7_2.1 t113_2).bind fun h'=>some ((.und:D),h')).bind fun p905_3=>(R a2f [t0,.int .i64 2] p905_3.2).bind fun p115_2=>(a0f tab .add ty3 (.int .i64 2) p115_2.1).bind fun t116_2=>((a0z (a9g t0 t1 p7_2) [t116_2,.any] p115_2.2).bind fun r_10=>some ((a0w 1 r_10.1),[nth 0 r_10.2.1,nth 1 r_10.2.1],r_10.2.2)).bind fun r_11=>a0y r_11.1 ((a0c tab r_11.2.2 a0l p7_2.1).bind fun t130_2=>((a0p tab r_11.2.2 a0l p4.1 t130_2).bind fun h'=>some ((.und:D),h')).bind fun p901_4=>(a0c tab p901_4.2 a0l p4.1).bind fun d0=>scope h p901_4.2 (a0m [d0])) fun x_10=>a0M x_10 ((a0c tab r_11.2.2 a0l p4.1).bind fun d0=>scope h r_11.2.2 (a0m [d0])))))) fun x_3=>a0y (a0w 0 x_3) ((a0f tab .rem ty3 (nth 0 r.2.1) (.int .i64 2)).bind fun t111_3=>(a0f tab .add ty3 (.int .i64 6) t111_3).bind fun t112_3=>(a0N tab a0l [0] [t112_3]).bind fun t113_3=>(some ((.ptr r_3.2.2.length 0 0:D),a1h r_3.2.2 a0l 5 [[.int .i64 0,.str [],.str [],.int .i64 0,.nils]])).bind fun p7_3=>((a0p tab p7_3.2 a0l p7_3.1 t113_3).bind fun h'=>some ((.und:D),h')).bind fun p905_4=>(R a2f [t0,.int .i64 2] p905_4.2).bind fun p115_3=>(a0f tab .add ty3 (.int .i64 2) p115_3.1).bind fun t116_3=>((a0z (b3G t0 t1 p7_3) [t116_3,.any] p115_3.2).bind fun r_12=>some ((a0w 1 r_12.1),[nth 0 r_12.2.1,nth 1 r_12.2.1],r_12.2.2)).bind fun r_13=>a0y r_13.1 ((a0c tab r_13.2.2 a0l p7_3.1).bind fun t130_3=>((a0p tab r_13.2.2 a0l p4.1 t130_3).bind fun h'=>some ((.und:D),h')).bind fun p901_5=>(a0c tab p901_5.2 a0l p4.1).bind fun d0=>scope h p901_5.2 (a0m [d0])) fun x_12=>a0M x_12 ((a0c tab r_13.2.2 a0l p4.1).bind fun d0=>scope h r_13.2.2 (a0m [d0]))) fun x_11=>a0M x_11 ((a0c tab r_3.2.2 a0l p4.1).bind fun d0=>scope h r_3.2.2 (a0m [d0]))))) fun x_2=>a0y (a0w 0 x_2) ((a0f tab .rem ty3 (nth 0 r.2.1) (.int .i64 2)).bind fun t111_4=>(a0f tab .add ty3 (.int .i64 6) t111_4).bind fun t112_4=>(a0N tab a0l [0] [t112_4]).bind fun t113_4=>(some ((.ptr r_2.2.2.length 0 0:D),a1h r_2.2.2 a0l 5 [[.int .i64 0,.str [],.str [],.int .i64 0,.nils]])).bind fun p7_4=>((a0p tab p7_4.2 a0l p7_4.1 t113_4).bind fun h'=>some ((.und:D),h')).bind fun p905_5=>(R a2f [t0,.int .i64 2] p905_5.2).bind fun p115_4=>(a0f tab .add ty3 (.int .i64 2) p115_4.1).bind fun t116_4=>((a0z (b3H t0 t1 p7_4) [t116_4,.any] p115_4.2).bind fun r_14=>some ((a0w 1 r_14.1),[nth 0 r_14.2.1,nth 1 r_14.2.1],r_14.2.2)).bind fun r_15=>a0y r_15.1 ((a0c tab r_15.2.2 a0l p7_4.1).bind fun t130_4=>((a0p tab r_15.2.2 a0l p4.1 t130_4).bind fun h'=>some ((.und:D),h')).bind fun p901_6=>(a0c tab p901_6.2 a0l p4.1).bind fun d0=>scope h p901_6.2 (a0m [d0])) fun x_14=>a0M x_14 ((a0c tab r_15.2.2 a0l p4.1).bind fun d0=>scope h r_15.2.2 (a0m [d0]))) fun x_13=>a0M x_13 ((a0c tab r_2.2.2 a0l p4.1).bind fun d0=>scope h r_2.2.2 (a0m [d0])))))) fun x_1=>a0y (a0w 0 x_1) ((a0f tab .rem ty3 (nth 0 r.2.1) (.int .i64 2)).bind fun t111_5=>(a0f tab .add ty3 (.int .i64 6) t111_5).bind fun t112_5=>(a0N tab a0l [0] [t112_5]).bind fun t113_5=>(some ((.ptr r_1.2.2.length 0 0:D),a1h r_1.2.2 a0l 5 [[.int .i64 0,.str [],.str [],.int .i64 0,.nils]])).bind fun p7_5=>((a0p tab p7_5.2 a0l p7_5.1 t113_5).bind fun h'=>some ((.und:D),h')).bind fun p905_6=>(R a2f [t0,.int .i64 2] p905_6.2).bind fun p115_5=>(a0f tab .add ty3 (.int .i64 2) p115_5.1).bind fun t116_5=>((a0z (b3I t0 t1 p7_5) [t116_5,.any] p115_5.2).bind fun r_16=>some ((a0w 1 r_16.1),[nth 0 r_16.2.1,nth 1 r_16.2.1],r_16.2.2)).bind fun r_17=>a0y r_17.1 ((a0c tab r_17.2.2 a0l p7_5.1).bind fun t130_5=>((a0p tab r_17.2.2 a0l p4.1 t130_5).bind fun h'=>some ((.und:D),h')).bind fun p901_7=>(a0c tab p901_7.2 a0l p4.1).bind fun d0=>scope h p901_7.2 (a0m [d0])) fun x_16=>a0M x_16 ((a0c tab r_17.2.2 a0l p4.1).bind fun d0=>scope h r_17.2.2 (a0m [d0]))) fun x_15=>a0M x_15 ((a0c tab r_1.2.2 a0l p4.1).bind fun d0=>scope h r_1.2.2 (a0m [d0]))) fun x=>a0M x ((a0c tab r.2.2 a0l p4.1).bind fun d0=>scope h r.2.2 (a0m [d0]))
theorem c3e (t0 t1:D) (h:Hp):R a2x [t0,t1] h=b8V t0 t1 h :=
 er i17 (by kernel_rfl) (by kernel_rfl)
noncomputable def b8g (t0 t1:D) (h:Hp):Option (D × Hp) :=
 (a1Z t0).bind fun t2=>(a1Z t1).bind fun t3=>(a0b tab a0C 5 t2).bind fun t5=>(a0c tab h ty3 t5).bind fun t6=>(a0b tab a0C 5 t3).bind fun t7=>(a0c tab h ty3 t7).bind fun t8=>(R b3r [t6,t8] h).bind fun p9=>(a0b tab a0C 0 t2).bind fun t10=>(a0c tab p9.2 ty3 t10).bind fun t11=>(a0b tab a0C 0 t3).bind fun t12=>(a0c tab p9.2 ty3 t12).bind fun t13=>(R b3r [t11,t13] p9.2).bind fun p14=>(a0b tab a0C 1 t2).bind fun t15=>(a0c tab p14.2 ty3 t15).bind fun t16=>(a0b tab a0C 1 t3).bind fun t17=>(a0c tab p14.2 ty3 t17).bind fun t18=>(R b3r [t16,t18] p14.2).bind fun p19=>(a0b tab a0C 2 t2).bind fun t20=>(a0c tab p19.2 ty3 t20).bind fun t21=>(a0b tab a0C 2 t3).bind fun t22=>(a0c tab p19.2 ty3 t22).bind fun t23=>(R b3r [t21,t23] p19.2).bind fun p24=>(a0J tab a3t 4 [0,1,2,3] [p9.1,p14.1,p19.1,p24.1]).bind fun t25=>(R b9M [t25] p24.2).bind fun p26=>(a0f tab .lss ty3 p26.1 (.int .i64 0)).bind fun t27=>chk (a0c tab h ty3 t10=some t11)
 (chk (a0c tab h ty3 t12=some t13)
 (chk (a0c tab h ty3 t15=some t16)
 (chk (a0c tab p9.2 ty3 t15=some t16)
 (chk (a0c tab h ty3 t17=some t18)
 (chk (a0c tab p9.2 ty3 t17=some t18)
 (chk (a0c tab h ty3 t20=some t21)
 (chk (a0c tab p9.2 ty3 t20=some t21)
 (chk (a0c tab p14.2 ty3 t20=some t21)
 (chk (a0c tab h ty3 t22=some t23)
 (chk (a0c tab p9.2 ty3 t22=some t23)
 (chk (a0c tab p14.2 ty3 t22=some t23)
 (some (a0m [t27],p26.2)))))))))))))
theorem c2o (t0 t1:D) (h:Hp):R a5B [t0,t1] h=b8g t0 t1 h :=
 er i19 (by kernel_rfl) (by kernel_rfl)
noncomputable def b5Z (t0 t1:D) (h:Hp):Option (D × Hp) :=
 (a0B tab a0v t0).bind fun t6=>(a2e tab ty3 a4i t6).bind fun t10=>(R a4V [t10] h).bind fun p11=>(R a5H [t0,.int .i64 0,t6,p11.1,t1] p11.2).bind fun p13=>some (a0m [],p13.2)
theorem b9w (t0 t1:D) (h:Hp):R a5F [t0,t1] h=b5Z t0 t1 h :=
 er i20 (by kernel_rfl) (by kernel_rfl)
noncomputable def b8s (t0 t1:D) (h:Hp):Option (D × Hp) :=
 (a1Z t0).bind fun t2=>(a1Z t1).bind fun t3=>(a0b tab a0i 0 t2).bind fun t5=>(a0c tab h ty3 t5).bind fun t6=>(a0b tab a0i 0 t3).bind fun t7=>(a0c tab h ty3 t7).bind fun t8=>(R b3r [t6,t8] h).bind fun p9=>(a0b tab a0i 1 t2).bind fun t10=>(a0c tab p9.2 ty3 t10).bind fun t11=>(a0b tab a0i 1 t3).bind fun t12=>(a0c tab p9.2 ty3 t12).bind fun t13=>(R b3r [t11,t13] p9.2).bind fun p14=>(a0J tab a3t 2 [0,1] [p9.1,p14.1]).bind fun t15=>(R b9M [t15] p14.2).bind fun p16=>chk (a0c tab h ty3 t10=some t11)
 (chk (a0c tab h ty3 t12=some t13)
 (some (a0m [p16.1],p16.2)))
theorem c2B (t0 t1:D) (h:Hp):R a4T [t0,t1] h=b8s t0 t1 h :=
 er i21 (by kernel_rfl) (by kernel_rfl)
noncomputable def a7i (t3m t6m t7:D) (ds:List D) (h_1:Hp):Option Out :=
 (a0f tab .lss ty3 (nth 2 ds) t7).bind fun t9=>dIf t9
  ((a0a tab a3t t6m (nth 2 ds)).bind fun t10=>(a0c tab h_1 ty3 t10).bind fun t11=>(a0f tab .neq ty3 t11 t3m).bind fun t14=>dIf t14
  (some (.ret,[t11,t11,nth 2 ds,t9,t14],h_1))
  ((a0f tab .add ty3 (nth 2 ds) (.int .i64 1)).bind fun t16=>some (.nrm,[nth 0 ds,t11,t16,t9,t14],h_1)))
  (some ((.ext 0),[nth 0 ds,nth 1 ds,nth 2 ds,t9,nth 4 ds],h_1))
noncomputable def F89 (t0:D) (h:Hp):Option (D × Hp) :=
 (a0B tab a3t t0).bind fun t7=>((a0z (a7i (.int .i64 0) t0 t7) [.int .i64 0,.any,.int .i64 0,.any,.any] h).bind fun r=>some ((a0w 0 r.1),[nth 0 r.2.1,nth 1 r.2.1,nth 2 r.2.1,nth 3 r.2.1,nth 4 r.2.1],r.2.2)).bind fun r_1=>a0y r_1.1 (some (a0m [.int .i64 0],r_1.2.2)) fun x=>a0M x (some (a0m [nth 0 r_1.2.1],r_1.2.2))
theorem e89 (t0:D) (h:Hp):R b9M [t0] h=F89 t0 h :=
 er i22 (by kernel_rfl) (by kernel_rfl)
noncomputable def F90 (t0 t1:D) (h:Hp):Option (D × Hp) :=
 (R c1K [t0] h).bind fun p8=>(R c1K [t1] p8.2).bind fun p10=>dIf p8.1
  (dIf p10.1
  (some (a0m [.int .i64 0],p10.2))
  (some (a0m [.int .i64 (-1)],p10.2)))
  (dIf p10.1
  (some (a0m [.int .i64 1],p10.2))
  ((a0f tab .lss ty3 t0 t1).bind fun t16=>dIf t16
  (some (a0m [.int .i64 (-1)],p10.2))
  ((a0f tab .gtr ty3 t0 t1).bind fun t19=>dIf t19
  (some (a0m [.int .i64 1],p10.2))
  (some (a0m [.int .i64 0],p10.2)))))
theorem e90 (t0 t1:D) (h:Hp):R b3r [t0,t1] h=F90 t0 t1 h :=
 er i23 (by kernel_rfl) (by kernel_rfl)
noncomputable def F82 (t0 t1:D) (h:Hp):Option (D × Hp) :=
 (a1Z t0).bind fun t2=>(a1Z t1).bind fun t3=>(a0b tab a2a 1 t2).bind fun t7=>(a0c tab h a0C t7).bind fun t8=>(a0b tab a2a 1 t3).bind fun t9=>(a0c tab h a0C t9).bind fun t10=>(some ((.ptr h.length 0 0:D),a1h h a0C 10 [[.int .i64 0,.int .i64 0,.int .i64 0,.int .i64 0,.nils,.int .i64 0,.int .i64 0,.str [],.str [],.nils]])).bind fun p5=>(some (.any:D)).bind fun t6=>((a0p tab p5.2 a0C p5.1 t8).bind fun h'=>some ((.und:D),h')).bind fun p906=>chk (a0c tab p5.2 a0C t7=some t8)
 (chk (a0c tab p5.2 a0C t9=some t10)
 (chk (a0c tab p906.2 a0C t9=some t10)
 (((a0p tab (a1h p906.2 a0C 10 [[.int .i64 0,.int .i64 0,.int .i64 0,.int .i64 0,.nils,.int .i64 0,.int .i64 0,.str [],.str [],.nils]]) a0C (.ptr p906.2.length 0 0) t10).bind fun h'=>some ((.und:D),h')).bind fun p907=>(a0b tab a2a 0 t2).bind fun t11=>(a0c tab p907.2 ty9 t11).bind fun t12=>(a0b tab a2a 0 t3).bind fun t13=>(a0c tab p907.2 ty9 t13).bind fun t14=>(a0f tab .eql ty9 t12 t14).bind fun t15=>(gd t15 true (a0b tab a0C 0 p5.1)).bind fun t17=>(gd t15 true (a0c tab p907.2 ty3 t17)).bind fun t18=>(gd t15 true (a0b tab a0C 0 (.ptr p906.2.length 0 0))).bind fun t19=>(gd t15 true (a0c tab p907.2 ty3 t19)).bind fun t20=>(gd t15 true (a0f tab .eql ty3 t18 t20)).bind fun t21=>(a0K t15 t21 (.bool false)).bind fun t22=>(gd t22 true (a0b tab a0C 1 p5.1)).bind fun t24=>(gd t22 true (a0c tab p907.2 ty3 t24)).bind fun t25=>(gd t22 true (a0b tab a0C 1 (.ptr p906.2.length 0 0))).bind fun t26=>(gd t22 true (a0c tab p907.2 ty3 t26)).bind fun t27=>(gd t22 true (a0f tab .eql ty3 t25 t27)).bind fun t28=>(a0K t22 t28 (.bool false)).bind fun t29=>(gd t29 true (a0b tab a0C 2 p5.1)).bind fun t31=>(gd t29 true (a0c tab p907.2 ty3 t31)).bind fun t32=>(gd t29 true (a0b tab a0C 2 (.ptr p906.2.length 0 0))).bind fun t33=>(gd t29 true (a0c tab p907.2 ty3 t33)).bind fun t34=>(gd t29 true (a0f tab .eql ty3 t32 t34)).bind fun t35=>(a0K t29 t35 (.bool false)).bind fun t36=>(gd t36 true (a0b tab a0C 3 p5.1)).bind fun t38=>(gd t36 true (a0c tab p907.2 ty3 t38)).bind fun t39=>(gd t36 true (a0b tab a0C 3 (.ptr p906.2.length 0 0))).bind fun t40=>(gd t36 true (a0c tab p907.2 ty3 t40)).bind fun t41=>(gd t36 true (a0f tab .eql ty3 t39 t41)).bind fun t42=>(a0K t36 t42 (.bool false)).bind fun t43=>(gd t43 true (a0b tab a0C 5 p5.1)).bind fun t45=>(gd t43 true (a0c tab p907.2 ty3 t45)).bind fun t46=>(gd t43 true (a0b tab a0C 5 (.ptr p906.2.length 0 0))).bind fun t47=>(gd t43 true (a0c tab p907.2 ty3 t47)).bind fun t48=>(gd t43 true (a0f tab .eql ty3 t46 t48)).bind fun t49=>(a0K t43 t49 (.bool false)).bind fun t50=>(gd t50 true (a0b tab a0C 6 p5.1)).bind fun t52=>(gd t50 true (a0c tab p907.2 ty3 t52)).bind fun t53=>(gd t50 true (a0b tab a0C 6 (.ptr p906.2.length 0 0))).bind fun t54=>(gd t50 true (a0c tab p907.2 ty3 t54)).bind fun t55=>(gd t50 true (a0f tab .eql ty3 t53 t55)).bind fun t56=>(a0K t50 t56 (.bool false)).bind fun t57=>(gd t57 true (a0b tab a0C 7 p5.1)).bind fun t59=>(gd t57 true (a0c tab p907.2 ty9 t59)).bind fun t60=>(gd t57 true (a0b tab a0C 7 (.ptr p906.2.length 0 0))).bind fun t61=>(gd t57 true (a0c tab p907.2 ty9 t61)).bind fun t62=>(gd t57 true (a0f tab .eql ty9 t60 t62)).bind fun t63=>(a0K t57 t63 (.bool false)).bind fun t64=>(gd t64 true (a0b tab a0C 8 p5.1)).bind fun t66=>(gd t64 true (a0c tab p907.2 ty9 t66)).bind fun t67=>(gd t64 true (a0b tab a0C 8 (.ptr p906.2.length 0 0))).bind fun t68=>(gd t64 true (a0c tab p907.2 ty9 t68)).bind fun t69=>(gd t64 true (a0f tab .eql ty9 t67 t69)).bind fun t70=>(a0K t64 t70 (.bool false)).bind fun t71=>(gd t71 true (a0b tab a0C 4 p5.1)).bind fun t73=>(gd t71 true (a0c tab p907.2 a3s t73)).bind fun t74=>(gd t71 true (a0b tab a0C 4 (.ptr p906.2.length 0 0))).bind fun t75=>(gd t71 true (a0c tab p907.2 a3s t75)).bind fun t76=>(gdW t71 true p907.2 (R c3C [t74,t76] p907.2)).bind fun p77=>(a0K t71 p77.1 (.bool false)).bind fun t78=>(gd t78 true (a0b tab a0C 9 p5.1)).bind fun t80=>(gd t78 true (a0c tab p77.2 a3F t80)).bind fun t81=>(gd t78 true (a0b tab a0C 9 (.ptr p906.2.length 0 0))).bind fun t82=>(gd t78 true (a0c tab p77.2 a3F t82)).bind fun t83=>(gdW t78 true p77.2 (R c3D [t81,t83] p77.2)).bind fun p84=>(a0K t78 p84.1 (.bool false)).bind fun t85=>scope h p84.2 (a0m [t85]))))
theorem e82 (t0 t1:D) (h:Hp):R c3A [t0,t1] h=F82 t0 t1 h :=
 er i24 (by kernel_rfl) (by kernel_rfl)
noncomputable def F57 (t0:D) (h:Hp):Option (D × Hp) :=
 (a0R tab t0).bind fun t4=>(a0b tab a3r 1 t4).bind fun t5=>(a0c tab h ty3 t5).bind fun t6=>(a0R tab t0).bind fun t8=>(a0b tab a3r 0 t8).bind fun t9=>(a0c tab h a3h t9).bind fun t10=>(a0B tab a3h t10).bind fun t11=>(a0f tab .lss ty3 t6 t11).bind fun t12=>some (a0m [t12],h)
theorem e57 (t0:D) (h:Hp):R c1E [t0] h=F57 t0 h :=
 er i25 (by kernel_rfl) (by kernel_rfl)
noncomputable def b0Q (t0 t1:D) (ds:List D) (ds_1:List D) (h_2:Hp):Option Out :=
 (a0f tab .gtr ty3 (nth 2 ds_1) (.int .i64 0)).bind fun t24=>dIf t24
  ((a0f tab .add ty3 (.int .i64 5) (nth 1 ds)).bind fun t30=>(R c1H [t0,t1,t30,nth 1 ds_1] h_2).bind fun p32=>(b0n 11 p32.1).bind fun t12=>(a0c tab p32.2 a2a t12).bind fun t34=>(a0J tab a2n 1 [0] [t34]).bind fun t35=>(a0D tab p32.2 a2n a2n (nth 0 ds_1) t35).bind fun p36=>(a0b tab a2a 1 t12).bind fun t37=>(a0b tab a0C 3 t37).bind fun t38=>(a0c tab p36.2 ty3 t38).bind fun t39=>(a0f tab .sub ty3 (nth 2 ds_1) (.int .i64 1)).bind fun t26=>some (.nrm,[p36.1,t39,t26,t12,t24],p36.2))
  (some ((.ext 2),[nth 0 ds_1,nth 1 ds_1,nth 2 ds_1,nth 3 ds_1,t24],h_2))
noncomputable def b5b (t0 t1 t2:D) (ds:List D) (h_1:Hp):Option Out :=
 (R a2f [t0,.int .i64 3] h_1).bind fun p15=>(a0f tab .leq ty3 (nth 1 ds) p15.1).bind fun t16=>dIf t16
  ((a0f tab .add ty3 t2 (.int .i64 1)).bind fun t21=>(R a2f [t0,t21] p15.2).bind fun p22=>((a0z (b0Q t0 t1 ds) [.nils,.int .i64 0,p22.1,nth 5 ds,nth 7 ds] p22.2).bind fun r_1=>some ((a0w 2 r_1.1),[nth 0 r_1.2.1,nth 1 r_1.2.1,nth 2 r_1.2.1,nth 3 r_1.2.1,nth 4 r_1.2.1],r_1.2.2)).bind fun r_2=>a0y r_2.1 ((a0J tab a3D 1 [0] [nth 0 r_2.2.1]).bind fun t42=>(a0D tab r_2.2.2 a3D a3D (nth 0 ds) t42).bind fun p43=>(a0f tab .add ty3 (nth 1 ds) (.int .i64 1)).bind fun t18=>some (.nrm,[p43.1,t18,nth 0 r_2.2.1,nth 1 r_2.2.1,nth 2 r_2.2.1,nth 3 r_2.2.1,t16,nth 4 r_2.2.1],p43.2)) fun x=>a0y (a0w 1 x) ((a0f tab .add ty3 (nth 1 ds) (.int .i64 1)).bind fun t18_1=>some (.nrm,[nth 0 ds,t18_1,nth 0 r_2.2.1,nth 1 r_2.2.1,nth 2 r_2.2.1,nth 3 r_2.2.1,t16,nth 4 r_2.2.1],r_2.2.2)) fun x_1=>some (x_1,[nth 0 ds,nth 1 ds,nth 0 r_2.2.1,nth 1 r_2.2.1,nth 2 r_2.2.1,nth 3 r_2.2.1,t16,nth 4 r_2.2.1],r_2.2.2))
  (some ((.ext 0),[nth 0 ds,nth 1 ds,nth 2 ds,nth 3 ds,nth 4 ds,nth 5 ds,t16,nth 7 ds],p15.2))
noncomputable def F71 (t0 t1 t2:D) (h:Hp):Option (D × Hp) :=
 ((a0z (b5b t0 t1 t2) [.nils,.int .i64 0,.any,.any,.any,.any,.any,.any] h).bind fun r=>some ((a0w 0 r.1),[nth 0 r.2.1,nth 1 r.2.1,nth 2 r.2.1,nth 3 r.2.1,nth 4 r.2.1,nth 5 r.2.1,nth 6 r.2.1,nth 7 r.2.1],r.2.2)).bind fun r_3=>a0y r_3.1 (scope h r_3.2.2 (a0m [nth 0 r_3.2.1])) fun x_2=>a0M x_2 (scope h r_3.2.2 (a0m [.nils]))
theorem e71 (t0 t1 t2:D) (h:Hp):R b9L [t0,t1,t2] h=F71 t0 t1 t2 h :=
 er i26 (by kernel_rfl) (by kernel_rfl)
noncomputable def a5t (t0 t3:D) (ds:List D) (h_1:Hp):Option Out :=
 (a0f tab .gtr ty3 (nth 0 ds) (.int .i64 0)).bind fun t10=>(gd t10 true (a0c tab h_1 a0C t3)).bind fun t12=>(gd t10 true (some t0)).bind fun t13=>(gd t10 true (some (nth 0 ds))).bind fun t14=>(gd t10 true (a0f tab .sub ty3 t14 (.int .i64 1))).bind fun t15=>(gd t10 true (a0a tab a2o t13 t15)).bind fun t16=>(gd t10 true (a0c tab h_1 a0C t16)).bind fun t17=>(gdW t10 true h_1 (R b6E [t12,t17] h_1)).bind fun p18=>(a0K t10 p18.1 (.bool false)).bind fun t19=>dIf t19
  ((a0f tab .sub ty3 (nth 0 ds) (.int .i64 1)).bind fun t21=>some (.nrm,[t21,t19],p18.2))
  (some ((.ext 0),[nth 0 ds,t19],p18.2))
noncomputable def F72 (t0 t1:D) (h:Hp):Option (D × Hp) :=
 (a1Z t1).bind fun t3=>(a0B tab a2o t0).bind fun t8=>((a0z (a5t t0 t3) [t8,.any] h).bind fun r=>some ((a0w 0 r.1),[nth 0 r.2.1,nth 1 r.2.1],r.2.2)).bind fun r_1=>a0y r_1.1 ((a0E tab a2o false true false [t0,nth 0 r_1.2.1]).bind fun t24=>(a0D tab r_1.2.2 a2o a2o (.nils) t24).bind fun p25=>(a0c tab p25.2 a0C t3).bind fun t27=>(a0J tab a2o 1 [0] [t27]).bind fun t28=>(a0D tab p25.2 a2o a2o p25.1 t28).bind fun p29=>(a0E tab a2o true false false [t0,nth 0 r_1.2.1]).bind fun t32=>(a0D tab p29.2 a2o a2o p29.1 t32).bind fun p33=>scope h p33.2 (a0m [p33.1])) fun x=>a0M x (scope h r_1.2.2 (a0m [.nils]))
theorem e72 (t0 t1:D) (h:Hp):R c1F [t0,t1] h=F72 t0 t1 h :=
 er i27 (by kernel_rfl) (by kernel_rfl)
noncomputable def a9h (t2 t3:D) (ds:List D) (h_1:Hp):Option Out :=
 (a0b tab a0l 4 t2).bind fun t133=>(a0c tab h_1 a0I t133).bind fun t134=>(a0B tab a0I t134).bind fun t135=>(a0f tab .lss ty3 (nth 1 ds) t135).bind fun t136=>dIf t136
  ((a0b tab a0l 4 t2).bind fun t139=>(a0c tab h_1 a0I t139).bind fun t140=>(a0a tab a0I t140 (nth 1 ds)).bind fun t142=>(a0c tab h_1 a0l t142).bind fun t143=>(a0c tab h_1 a0C t3).bind fun t144=>(R a3v [t143,t144] h_1).bind fun p145=>(dUn .not p145.1).bind fun t146=>dIf t146
  (some (.ret,[.bool false,nth 1 ds,t136,t146],p145.2))
  ((a0f tab .add ty3 (nth 1 ds) (.int .i64 1)).bind fun t138=>some (.nrm,[nth 0 ds,t138,t136,t146],p145.2)))
  (some ((.ext 1),[nth 0 ds,nth 1 ds,t136,nth 3 ds],h_1))
noncomputable def a9i (t2 t3:D) (ds_1:List D) (h_2:Hp):Option Out :=
 (a0b tab a0l 4 t2).bind fun t150=>(a0c tab h_2 a0I t150).bind fun t151=>(a0B tab a0I t151).bind fun t152=>(a0f tab .lss ty3 (nth 1 ds_1) t152).bind fun t153=>dIf t153
  ((a0b tab a0l 4 t2).bind fun t156=>(a0c tab h_2 a0I t156).bind fun t157=>(a0a tab a0I t157 (nth 1 ds_1)).bind fun t159=>(a0c tab h_2 a0l t159).bind fun t160=>(a0c tab h_2 a0C t3).bind fun t161=>(R a3v [t160,t161] h_2).bind fun p162=>dIf p162.1
  (some (.ret,[.bool true,nth 1 ds_1,t153,p162.1],p162.2))
  ((a0f tab .add ty3 (nth 1 ds_1) (.int .i64 1)).bind fun t155=>some (.nrm,[nth 0 ds_1,t155,t153,p162.1],p162.2)))
  (some ((.ext 3),[nth 0 ds_1,nth 1 ds_1,t153,nth 3 ds_1],h_2))
noncomputable def b8W (t0 t1:D) (h:Hp):Option (D × Hp) :=
 (a1Z t0).bind fun t2=>(a1Z t1).bind fun t3=>(a0b tab a0l 0 t2).bind fun t15=>(a0c tab h ty3 t15).bind fun t16=>(a0f tab .eql ty3 t16 (.int .i64 1)).bind fun t18=>dIf t18
  ((a0c tab h a0C t3).bind fun t20=>(R a5C [t20] h).bind fun p21=>(R a7H [p21.1] p21.2).bind fun p22=>(a0b tab a0l 2 t2).bind fun t23=>(a0c tab p22.2 ty9 t23).bind fun t24=>(R a7G [p22.1,t24] p22.2).bind fun p25=>(a0r 0 p25.1).bind fun t26=>(a0r 1 p25.1).bind fun t27=>chk (a0c tab h ty9 t23=some t24)
 (chk (a0c tab p21.2 ty9 t23=some t24)
 (some (a0m [t27],p25.2))))
  ((a0f tab .eql ty3 t16 (.int .i64 2)).bind fun t30=>dIf t30
  ((a0c tab h a0C t3).bind fun t31=>(R a5C [t31] h).bind fun p32=>(R a7H [p32.1] p32.2).bind fun p33=>(a0b tab a0l 2 t2).bind fun t34=>(a0c tab p33.2 ty9 t34).bind fun t35=>(R b1P [p33.1,t35] p33.2).bind fun p36=>chk (a0c tab h ty9 t34=some t35)
 (chk (a0c tab p32.2 ty9 t34=some t35)
 (some (a0m [p36.1],p36.2))))
  ((a0f tab .eql ty3 t16 (.int .i64 3)).bind fun t38=>dIf t38
  ((a0c tab h a0C t3).bind fun t39=>(R a5C [t39] h).bind fun p40=>(a0b tab a0l 2 t2).bind fun t41=>(a0c tab p40.2 ty9 t41).bind fun t42=>(R a9L [p40.1,t42] p40.2).bind fun p43=>chk (a0c tab h ty9 t41=some t42)
 (some (a0m [p43.1],p43.2)))
  ((a0f tab .eql ty3 t16 (.int .i64 4)).bind fun t45=>dIf t45
  ((a0c tab h a0C t3).bind fun t47=>(a0b tab a0l 1 t2).bind fun t48=>(a0c tab h ty9 t48).bind fun t49=>(R a5D [t47,t49] h).bind fun p50=>(a0r 0 p50.1).bind fun t51=>(a0r 1 p50.1).bind fun t52=>(gd t52 true (some t51)).bind fun t55=>(gd t52 true (a0b tab a0l 2 t2)).bind fun t56=>(gd t52 true (a0c tab p50.2 ty9 t56)).bind fun t57=>(gd t52 true (a0f tab .eql ty9 t55 t57)).bind fun t58=>(a0K t52 t58 (.bool false)).bind fun t59=>some (a0m [t59],p50.2))
  ((a0f tab .eql ty3 t16 (.int .i64 8)).bind fun t61=>dIf t61
  ((a0c tab h a0C t3).bind fun t63=>(a0b tab a0l 1 t2).bind fun t64=>(a0c tab h ty9 t64).bind fun t65=>(R a5D [t63,t65] h).bind fun p66=>(a0r 0 p66.1).bind fun t67=>(a0r 1 p66.1).bind fun t68=>some (a0m [t68],p66.2))
  ((a0f tab .eql ty3 t16 (.int .i64 9)).bind fun t71=>(dIf t71
  (some (.nrm,[t71],h))
  ((a0f tab .eql ty3 t16 (.int .i64 10)).bind fun t72=>(dIf t72
  (some (.nrm,[t72],h))
  ((a0f tab .eql ty3 t16 (.int .i64 11)).bind fun t73=>some (.nrm,[t73],h))).bind fun r=>some (r.1,[nth 0 r.2.1],r.2.2))).bind fun r_1=>a0y r_1.1 (dIf (nth 0 r_1.2.1)
  ((a0c tab r_1.2.2 a0C t3).bind fun t75=>(a0b tab a0l 1 t2).bind fun t76=>(a0c tab r_1.2.2 ty9 t76).bind fun t77=>(R b1A [t75,t77] r_1.2.2).bind fun p78=>(a0r 0 p78.1).bind fun t79=>(a0r 1 p78.1).bind fun t80=>(gd t80 true (a0b tab a0l 0 t2)).bind fun t83=>(gd t80 true (a0c tab p78.2 ty3 t83)).bind fun t84=>(gd t80 true (a0f tab .eql ty3 t84 (.int .i64 9))).bind fun t85=>(gd t80 true (some t85)).bind fun t86=>(gd t86 true (some t79)).bind fun t87=>(gd t86 true (a0b tab a0l 3 t2)).bind fun t88=>(gd t86 true (a0c tab p78.2 ty3 t88)).bind fun t89=>(gd t86 true (a0f tab .lss ty3 t87 t89)).bind fun t90=>(gd t80 true (a0K t86 t90 (.bool false))).bind fun t91=>(gd t80 true (some t91)).bind fun t92=>(gd t92 false (a0b tab a0l 0 t2)).bind fun t93=>(gd t92 false (a0c tab p78.2 ty3 t93)).bind fun t94=>(gd t92 false (a0f tab .eql ty3 t94 (.int .i64 10))).bind fun t95=>(gd t92 false (some t95)).bind fun t96=>(gd t96 true (some t79)).bind fun t97=>(gd t96 true (a0b tab a0l 3 t2)).bind fun t98=>(gd t96 true (a0c tab p78.2 ty3 t98)).bind fun t99=>(gd t96 true (a0f tab .gtr ty3 t97 t99)).bind fun t100=>(gd t92 false (a0K t96 t100 (.bool false))).bind fun t101=>(gd t80 true (a0K t92 (.bool true) t101)).bind fun t102=>(gd t80 true (some t102)).bind fun t103=>(gd t103 false (a0b tab a0l 0 t2)).bind fun t104=>(gd t103 false (a0c tab p78.2 ty3 t104)).bind fun t105=>(gd t103 false (a0f tab .eql ty3 t105 (.int .i64 11))).bind fun t106=>(gd t103 false (some t106)).bind fun t107=>(gd t107 true (some t79)).bind fun t108=>(gd t107 true (a0b tab a0l 3 t2)).bind fun t109=>(gd t107 true (a0c tab p78.2 ty3 t109)).bind fun t110=>(gd t107 true (a0f tab .eql ty3 t108 t110)).bind fun t111=>(gd t103 false (a0K t107 t111 (.bool false))).bind fun t112=>(gd t80 true (a0K t103 (.bool true) t112)).bind fun t113=>(a0K t80 t113 (.bool false)).bind fun t114=>some (a0m [t114],p78.2))
  ((a0f tab .eql ty3 t16 (.int .i64 5)).bind fun t116=>dIf t116
  ((a0b tab a0l 4 t2).bind fun t117=>(a0c tab r_1.2.2 a0I t117).bind fun t118=>(a0B tab a0I t118).bind fun t119=>(a0f tab .eql ty3 t119 (.int .i64 1)).bind fun t120=>(gd t120 true (a0b tab a0l 4 t2)).bind fun t122=>(gd t120 true (a0c tab r_1.2.2 a0I t122)).bind fun t123=>(gd t120 true (a0a tab a0I t123 (.int .i64 0))).bind fun t124=>(gd t120 true (a0c tab r_1.2.2 a0l t124)).bind fun t125=>(gd t120 true (a0c tab r_1.2.2 a0C t3)).bind fun t126=>(gdW t120 true r_1.2.2 (R a3v [t125,t126] r_1.2.2)).bind fun p127=>(gd t120 true (dUn .not p127.1)).bind fun t128=>(a0K t120 t128 (.bool false)).bind fun t129=>some (a0m [t129],p127.2))
  ((a0f tab .eql ty3 t16 (.int .i64 6)).bind fun t131=>(dIf t131
  (((a0z (a9h t2 t3) [.bool false,.int .i64 0,.any,.any] r_1.2.2).bind fun r_2=>some ((a0w 1 r_2.1),[nth 0 r_2.2.1,nth 1 r_2.2.1,nth 2 r_2.2.1,nth 3 r_2.2.1],r_2.2.2)).bind fun r_3=>some (r_3.1,[nth 0 r_3.2.1,nth 1 r_3.2.1,.any,nth 2 r_3.2.1,nth 3 r_3.2.1,.any,.any,.any],r_3.2.2))
  ((a0f tab .eql ty3 t16 (.int .i64 7)).bind fun t148=>dIf t148
  (((a0z (a9i t2 t3) [.bool false,.int .i64 0,.any,.any] r_1.2.2).bind fun r_4=>some ((a0w 3 r_4.1),[nth 0 r_4.2.1,nth 1 r_4.2.1,nth 2 r_4.2.1,nth 3 r_4.2.1],r_4.2.2)).bind fun r_5=>a0y r_5.1 (some (.ret,[.bool false,.any,nth 1 r_5.2.1,.any,.any,t148,nth 2 r_5.2.1,nth 3 r_5.2.1],r_5.2.2)) fun x_1=>some (x_1,[nth 0 r_5.2.1,.any,nth 1 r_5.2.1,.any,.any,t148,nth 2 r_5.2.1,nth 3 r_5.2.1],r_5.2.2))
  (some (.nrm,[.bool false,.any,.any,.any,.any,t148,.any,.any],r_1.2.2)))).bind fun r_6=>a0y (a0w 0 r_6.1) (some (a0m [.bool true],r_6.2.2)) fun x_2=>a0M x_2 (some (a0m [nth 0 r_6.2.1],r_6.2.2))))) fun x=>a0y (a0w 0 x) (some (a0m [.bool true],r_1.2.2)) fun x_3=>a0M x_3 (some (a0m [.bool false],r_1.2.2)))))))
theorem c3f (t0 t1:D) (h:Hp):R a3v [t0,t1] h=b8W t0 t1 h :=
 er i28 (by kernel_rfl) (by kernel_rfl)
noncomputable def b8i (t0:D) (h:Hp):Option (D × Hp) :=
 (a0J tab a1d 4 [0,1,2,3] [.str [108,101,118,101,108],.str [109,115],.str [117,115,101,114],.str [99,111,100,101]]).bind fun t3=>(R a2f [t0,.int .i64 4] h).bind fun p5=>(a0a tab a1d t3 p5.1).bind fun t6=>(a0c tab p5.2 ty9 t6).bind fun t7=>some (a0m [t7],p5.2)
theorem c2q (t0:D) (h:Hp):R a7A [t0] h=b8i t0 h :=
 er i29 (by kernel_rfl) (by kernel_rfl)
noncomputable def F33 (t0:D) (h:Hp):Option (D × Hp) :=
 (a0J tab a1d 11 [0,1,2,3,4,5,6,7,8,9,10] [.str [119,97,114,110],.str [105,110,102,111],.str [55],.str [45,51],.str [51,49],.str [],.str [120,32,121],.str [57,57,57,57,57,57,57,57,57,57,57,57,57,57,57,57,57,57],.str [49,48,48,48,48,48,48,48,48,48,48,48,48,48,48,48,48,48,48],.str [48,55],.str [45]]).bind fun t4=>(a0B tab a1d t4).bind fun t8=>(R a2f [t0,t8] h).bind fun p9=>(a0a tab a1d t4 p9.1).bind fun t10=>(a0c tab p9.2 ty9 t10).bind fun t11=>some (a0m [t11],p9.2)
theorem e33 (t0:D) (h:Hp):R c1B [t0] h=F33 t0 h :=
 er i30 (by kernel_rfl) (by kernel_rfl)
noncomputable def b6a (t0 t1:D) (h:Hp):Option (D × Hp) :=
 (a0B tab a0u t0).bind fun t6=>(a2e tab ty3 a4i t6).bind fun t10=>(R a4V [t10] h).bind fun p11=>(R a5I [t0,.int .i64 0,t6,p11.1,t1] p11.2).bind fun p13=>some (a0m [],p13.2)
theorem b9x (t0 t1:D) (h:Hp):R a5G [t0,t1] h=b6a t0 t1 h :=
 er i32 (by kernel_rfl) (by kernel_rfl)
noncomputable def b8t (t0 t1:D) (h:Hp):Option (D × Hp) :=
 (a1Z t0).bind fun t2=>(a1Z t1).bind fun t3=>(a0b tab a0h 1 t2).bind fun t5=>(a0c tab h ty9 t5).bind fun t6=>(a0b tab a0h 1 t3).bind fun t7=>(a0c tab h ty9 t7).bind fun t8=>(R c3B [t6,t8] h).bind fun p9=>(a0b tab a0h 0 t2).bind fun t10=>(a0b tab a0C 5 t10).bind fun t11=>(a0c tab p9.2 ty3 t11).bind fun t12=>(a0b tab a0h 0 t3).bind fun t13=>(a0b tab a0C 5 t13).bind fun t14=>(a0c tab p9.2 ty3 t14).bind fun t15=>(R b3r [t12,t15] p9.2).bind fun p16=>(a0b tab a0h 2 t2).bind fun t17=>(a0c tab p16.2 ty3 t17).bind fun t18=>(a0b tab a0h 2 t3).bind fun t19=>(a0c tab p16.2 ty3 t19).bind fun t20=>(R b3r [t18,t20] p16.2).bind fun p21=>(a0J tab a3t 3 [0,1,2] [p9.1,p16.1,p21.1]).bind fun t22=>(R b9M [t22] p21.2).bind fun p23=>chk (a0c tab h ty3 t11=some t12)
 (chk (a0c tab h ty3 t14=some t15)
 (chk (a0c tab h ty3 t17=some t18)
 (chk (a0c tab p9.2 ty3 t17=some t18)
 (chk (a0c tab h ty3 t19=some t20)
 (chk (a0c tab p9.2 ty3 t19=some t20)
 (some (a0m [p23.1],p23.2)))))))
theorem c2C (t0 t1:D) (h:Hp):R a4U [t0,t1] h=b8t t0 t1 h :=
 er i33 (by kernel_rfl) (by kernel_rfl)
noncomputable def a5Z (t0 t4:D) (ds:List D) (h_1:Hp):Option Out :=
 ((a0f tab .sub ty3 (nth 1 ds) (nth 0 ds)).bind fun t23=>(a0f tab .leq ty3 t23 (.int .i64 12)).bind fun t25=>dIf t25
  ((R a4W [t0,nth 0 ds,nth 1 ds,t4] h_1).bind fun p30=>some (.ret,[nth 0 ds,nth 1 ds,nth 2 ds,nth 3 ds,nth 4 ds,t23,nth 6 ds,nth 7 ds,nth 8 ds,nth 9 ds,nth 10 ds,nth 11 ds,nth 12 ds,nth 13 ds,t25,nth 15 ds,nth 16 ds,nth 17 ds,nth 18 ds,nth 19 ds,nth 20 ds,nth 21 ds],p30.2))
  ((a0f tab .eql ty3 (nth 2 ds) (.int .i64 0)).bind fun t32=>dIf t32
  ((R b1E [t0,nth 0 ds,nth 1 ds,t4] h_1).bind fun p37=>some (.ret,[nth 0 ds,nth 1 ds,nth 2 ds,nth 3 ds,nth 4 ds,t23,nth 6 ds,nth 7 ds,nth 8 ds,nth 9 ds,nth 10 ds,nth 11 ds,nth 12 ds,nth 13 ds,t25,t32,nth 16 ds,nth 17 ds,nth 18 ds,nth 19 ds,nth 20 ds,nth 21 ds],p37.2))
  ((dUn .not (nth 3 ds)).bind fun t39=>(dIf t39
  ((R b1F [t0,nth 0 ds,nth 1 ds,t4] h_1).bind fun p44=>(a0f tab .sub ty3 (nth 2 ds) (.int .i64 1)).bind fun t46=>some (.nrm,[t46],p44.2))
  (some (.nrm,[nth 2 ds],h_1))).bind fun r_1=>a0y r_1.1 ((R a9D [t0,nth 0 ds,nth 1 ds,t4] r_1.2.2).bind fun p52=>(a0r 0 p52.1).bind fun t53=>(a0r 1 p52.1).bind fun t54=>(a0f tab .eql a8e t54 (.int .i64 2)).bind fun t56=>(dIf t56
  ((R b1G [t0,nth 0 ds,nth 1 ds,t4] p52.2).bind fun p61=>(a0f tab .sub ty3 (nth 1 ds) (.int .i64 1)).bind fun t63=>(a0f tab .sub ty3 t53 (nth 0 ds)).bind fun t66=>(a0f tab .sub ty3 t63 t66).bind fun t67=>some (.nrm,[t67,.int .i64 1],p61.2))
  (some (.nrm,[t53,t54],p52.2))).bind fun r_2=>a0y r_2.1 ((gd (nth 3 ds) true (some (nth 4 ds))).bind fun t70=>(a0K (nth 3 ds) t70 (.bool false)).bind fun t71=>(gd t71 true (some (nth 1 r_2.2.1))).bind fun t73=>(gd t71 true (a0f tab .eql a8e t73 (.int .i64 1))).bind fun t74=>(a0K t71 t74 (.bool false)).bind fun t75=>(dIf t75
  ((R b1H [t0,nth 0 ds,nth 1 ds,t4] r_2.2.2).bind fun p80=>dIf p80.1
  (some (.ret,[p80.1],p80.2))
  (some (.nrm,[p80.1],p80.2)))
  (some (.nrm,[nth 19 ds],r_2.2.2))).bind fun r_3=>a0y r_3.1 ((a0f tab .gtr ty3 (nth 0 ds) (.int .i64 0)).bind fun t82=>(gd t82 true (some t4)).bind fun t84=>(gd t82 true (some t0)).bind fun t85=>(gd t82 true (some (nth 0 ds))).bind fun t86=>(gd t82 true (a0f tab .sub ty3 t86 (.int .i64 1))).bind fun t87=>(gd t82 true (a0a tab a0v t85 t87)).bind fun t88=>(gd t82 true (a0c tab r_3.2.2 a0i t88)).bind fun t89=>(gd t82 true (some t0)).bind fun t90=>(gd t82 true (some (nth 0 r_2.2.1))).bind fun t91=>(gd t82 true (a0a tab a0v t90 t91)).bind fun t92=>(gd t82 true (a0c tab r_3.2.2 a0i t92)).bind fun t93=>(gdW t82 true r_3.2.2 (a1B R t84 [t89,t93] r_3.2.2)).bind fun p94=>(gd t82 true (a0f tab .lss ty3 p94.1 (.int .i64 0))).bind fun t95=>(gd t82 true (dUn .not t95)).bind fun t96=>(a0K t82 t96 (.bool false)).bind fun t97=>dIf t97
  ((R b5r [t0,nth 0 ds,nth 1 ds,nth 0 r_2.2.1,t4] p94.2).bind fun p103=>some (.nrm,[p103.1,nth 1 ds,nth 0 r_1.2.1,nth 3 ds,nth 4 ds,t23,nth 0 r_2.2.1,nth 1 r_2.2.1,p103.1,nth 9 ds,nth 10 ds,nth 11 ds,nth 12 ds,nth 13 ds,t25,t32,t39,t56,t75,nth 0 r_3.2.1,t97,nth 21 ds],p103.2))
  ((R b1I [t0,nth 0 ds,nth 1 ds,nth 0 r_2.2.1,t4] p94.2).bind fun p111=>(a0r 0 p111.1).bind fun t112=>(a0r 1 p111.1).bind fun t113=>(a0f tab .sub ty3 t112 (nth 0 ds)).bind fun t117=>(a0f tab .sub ty3 (nth 1 ds) t112).bind fun t120=>(a0f tab .quo ty3 t23 (.int .i64 8)).bind fun t122=>(a0f tab .lss ty3 t117 t120).bind fun t125=>(dIf t125
  ((a0f tab .geq ty3 t117 t122).bind fun t128=>(R a5H [t0,nth 0 ds,t112,nth 0 r_1.2.1,t4] p111.2).bind fun p134=>(a0f tab .add ty3 t112 (.int .i64 1)).bind fun t136=>some (.nrm,[t136,nth 1 ds,t128],p134.2))
  ((a0f tab .geq ty3 t120 t122).bind fun t139=>(a0f tab .add ty3 t112 (.int .i64 1)).bind fun t142=>(R a5H [t0,t142,nth 1 ds,nth 0 r_1.2.1,t4] p111.2).bind fun p146=>some (.nrm,[nth 0 ds,t112,t139],p146.2))).bind fun r_4=>some ((a0w 1 r_4.1),[nth 0 r_4.2.1,nth 1 r_4.2.1,nth 0 r_1.2.1,nth 2 r_4.2.1,t113,t23,nth 0 r_2.2.1,nth 1 r_2.2.1,nth 8 ds,t112,t113,t117,t120,t122,t25,t32,t39,t56,t75,nth 0 r_3.2.1,t97,t125],r_4.2.2))) fun x_2=>some ((a0w 1 x_2),[nth 0 ds,nth 1 ds,nth 0 r_1.2.1,nth 3 ds,nth 4 ds,t23,nth 0 r_2.2.1,nth 1 r_2.2.1,nth 8 ds,nth 9 ds,nth 10 ds,nth 11 ds,nth 12 ds,nth 13 ds,t25,t32,t39,t56,t75,nth 0 r_3.2.1,nth 20 ds,nth 21 ds],r_3.2.2)) fun x_1=>some ((a0w 1 x_1),[nth 0 ds,nth 1 ds,nth 0 r_1.2.1,nth 3 ds,nth 4 ds,t23,nth 0 r_2.2.1,nth 1 r_2.2.1,nth 8 ds,nth 9 ds,nth 10 ds,nth 11 ds,nth 12 ds,nth 13 ds,t25,t32,t39,t56,nth 18 ds,nth 19 ds,nth 20 ds,nth 21 ds],r_2.2.2)) fun x=>some ((a0w 1 x),[nth 0 ds,nth 1 ds,nth 0 r_1.2.1,nth 3 ds,nth 4 ds,t23,nth 6 ds,nth 7 ds,nth 8 ds,nth 9 ds,nth 10 ds,nth 11 ds,nth 12 ds,nth 13 ds,t25,t32,t39,nth 17 ds,nth 18 ds,nth 19 ds,nth 20 ds,nth 21 ds],r_1.2.2)))).bind fun r_5=>some (r_5.1,[nth 0 r_5.2.1,nth 1 r_5.2.1,nth 2 r_5.2.1,nth 3 r_5.2.1,nth 4 r_5.2.1,nth 5 r_5.2.1,nth 6 r_5.2.1,nth 7 r_5.2.1,nth 8 r_5.2.1,nth 9 r_5.2.1,nth 10 r_5.2.1,nth 11 r_5.2.1,nth 12 r_5.2.1,nth 13 r_5.2.1,nth 14 r_5.2.1,nth 15 r_5.2.1,nth 16 r_5.2.1,nth 17 r_5.2.1,nth 18 r_5.2.1,nth 19 r_5.2.1,nth 20 r_5.2.1,nth 21 r_5.2.1],r_5.2.2)
noncomputable def b6b (t0 t1 t2 t3 t4:D) (h:Hp):Option (D × Hp) :=
 (a0z (a5Z t0 t4) [t1,t2,t3,.bool true,.bool true,.any,.any,.any,.any,.any,.any,.any,.any,.any,.any,.any,.any,.any,.any,.any,.any,.any] h).bind fun r=>a0M (a0w 0 r.1) (some (a0m [],r.2.2))
theorem b9y (t0 t1 t2 t3 t4:D) (h:Hp):R a5H [t0,t1,t2,t3,t4] h=b6b t0 t1 t2 t3 t4 h :=
 er i34 (by kernel_rfl) (by kernel_rfl)
noncomputable def b8u (t0:D) (h:Hp):Option (D × Hp) :=
 dIf (.bool false)
  ((a2e tab a4i b8e t0).bind fun t4=>(R b5s [t4] h).bind fun p5=>some (a0m [p5.1],p5.2))
  ((R b1D [t0] h).bind fun p7=>some (a0m [p7.1],p7.2))
theorem c2D (t0:D) (h:Hp):R a4V [t0] h=b8u t0 h :=
 er i35 (by kernel_rfl) (by kernel_rfl)
noncomputable def F99 (t0:D) (h:Hp):Option (D × Hp) :=
 (a0f tab .neq ty3 t0 t0).bind fun t5=>some (a0m [t5],h)
theorem e99 (t0:D) (h:Hp):R c1K [t0] h=F99 t0 h :=
 er i36 (by kernel_rfl) (by kernel_rfl)
noncomputable def b5e (t0 t1:D) (ds:List D) (h_1:Hp):Option Out :=
 (a0B tab a3s t0).bind fun t13=>(a0f tab .lss ty3 (nth 1 ds) t13).bind fun t14=>dIf t14
  ((a0a tab a3s t0 (nth 1 ds)).bind fun t19=>(a0c tab h_1 a7f t19).bind fun t20=>(a0a tab a3s t1 (nth 1 ds)).bind fun t23=>(a0c tab h_1 a7f t23).bind fun t24=>(a0f tab .neq a7f t20 t24).bind fun t25=>dIf t25
  (some (.ret,[.bool false,nth 1 ds,t14,t25],h_1))
  ((a0f tab .add ty3 (nth 1 ds) (.int .i64 1)).bind fun t16=>some (.nrm,[nth 0 ds,t16,t14,t25],h_1)))
  (some ((.ext 0),[nth 0 ds,nth 1 ds,t14,nth 3 ds],h_1))
noncomputable def F94 (t0 t1:D) (h:Hp):Option (D × Hp) :=
 (a0B tab a3s t0).bind fun t7=>(a0B tab a3s t1).bind fun t9=>(a0f tab .neq ty3 t7 t9).bind fun t10=>dIf t10
  (some (a0m [.bool false],h))
  (((a0z (b5e t0 t1) [.bool false,.int .i64 0,.any,.any] h).bind fun r=>some ((a0w 0 r.1),[nth 0 r.2.1,nth 1 r.2.1,nth 2 r.2.1,nth 3 r.2.1],r.2.2)).bind fun r_1=>a0y r_1.1 (some (a0m [.bool true],r_1.2.2)) fun x=>a0M x (some (a0m [nth 0 r_1.2.1],r_1.2.2)))
theorem e94 (t0 t1:D) (h:Hp):R c3C [t0,t1] h=F94 t0 t1 h :=
 er i37 (by kernel_rfl) (by kernel_rfl)
noncomputable def b5f (t0 t1:D) (ds:List D) (h_1:Hp):Option Out :=
 (a0B tab a3F t0).bind fun t13=>(a0f tab .lss ty3 (nth 1 ds) t13).bind fun t14=>dIf t14
  ((a0a tab a3F t0 (nth 1 ds)).bind fun t19=>(a0c tab h_1 a2s t19).bind fun t20=>(a0a tab a3F t1 (nth 1 ds)).bind fun t23=>(a0c tab h_1 a2s t23).bind fun t24=>(a0f tab .neq a2s t20 t24).bind fun t25=>dIf t25
  (some (.ret,[.bool false,nth 1 ds,t14,t25],h_1))
  ((a0f tab .add ty3 (nth 1 ds) (.int .i64 1)).bind fun t16=>some (.nrm,[nth 0 ds,t16,t14,t25],h_1)))
  (some ((.ext 0),[nth 0 ds,nth 1 ds,t14,nth 3 ds],h_1))
noncomputable def F95 (t0 t1:D) (h:Hp):Option (D × Hp) :=
 (a0B tab a3F t0).bind fun t7=>(a0B tab a3F t1).bind fun t9=>(a0f tab .neq ty3 t7 t9).bind fun t10=>dIf t10
  (some (a0m [.bool false],h))
  (((a0z (b5f t0 t1) [.bool false,.int .i64 0,.any,.any] h).bind fun r=>some ((a0w 0 r.1),[nth 0 r.2.1,nth 1 r.2.1,nth 2 r.2.1,nth 3 r.2.1],r.2.2)).bind fun r_1=>a0y r_1.1 (some (a0m [.bool true],r_1.2.2)) fun x=>a0M x (some (a0m [nth 0 r_1.2.1],r_1.2.2)))
theorem e95 (t0 t1:D) (h:Hp):R c3D [t0,t1] h=F95 t0 t1 h :=
 er i38 (by kernel_rfl) (by kernel_rfl)
noncomputable def b5c (t0:D) (p9:D × Hp) (ds:List D) (h_1:Hp):Option Out :=
 (a0f tab .gtr ty3 (nth 1 ds) (.int .i64 0)).bind fun t24=>dIf t24
  ((R c1I [t0] h_1).bind fun p28=>(a0B tab ty9 p28.1).bind fun t30=>(a0f tab .add ty3 t30 (.int .i64 1)).bind fun t31=>(R a2f [t0,.int .i64 2] p28.2).bind fun p33=>(a0f tab .add ty3 t31 p33.1).bind fun t34=>(a0b tab a0C 4 p9.1).bind fun t35=>(a0c tab p33.2 a3s t35).bind fun t36=>(a0N tab a7f [0,1,2] [nth 0 ds,t34,p28.1]).bind fun t40=>(a0J tab a3s 1 [0] [t40]).bind fun t41=>(a0D tab p33.2 a3s a3s t36 t41).bind fun p42=>(a0b tab a0C 4 p9.1).bind fun t43=>((a0p tab p42.2 a3s t43 p42.1).bind fun h'=>some ((.und:D),h')).bind fun p909=>(a0f tab .add ty3 (nth 0 ds) t34).bind fun t46=>(a0f tab .sub ty3 (nth 1 ds) (.int .i64 1)).bind fun t26=>some (.nrm,[t46,t26,p28.1,t34,t24],p909.2))
  (some ((.ext 0),[nth 0 ds,nth 1 ds,nth 2 ds,nth 3 ds,t24],h_1))
noncomputable def b5d (p9:D × Hp) (ds_1:List D) (h_2:Hp):Option Out :=
 (a0b tab a0C 4 p9.1).bind fun t53=>(a0c tab h_2 a3s t53).bind fun t54=>(a0B tab a3s t54).bind fun t55=>(a0f tab .lss ty3 (nth 0 ds_1) t55).bind fun t56=>dIf t56
  ((a0b tab a0C 4 p9.1).bind fun t59=>(a0c tab h_2 a3s t59).bind fun t60=>(a0a tab a3s t60 (nth 0 ds_1)).bind fun t62=>(a0b tab a7f 2 t62).bind fun t63=>((a0p tab h_2 ty9 t63 (.str [])).bind fun h'=>some ((.und:D),h')).bind fun p905_1=>(a0f tab .add ty3 (nth 0 ds_1) (.int .i64 1)).bind fun t58=>some (.nrm,[t58,t56],p905_1.2))
  (some ((.ext 2),[nth 0 ds_1,t56],h_2))
noncomputable def F84 (t0 t1 t2 t3:D) (h:Hp):Option (D × Hp) :=
 (some ((.ptr h.length 0 0:D),a1h h a2a 11 [[.str [],.int .i64 0,.int .i64 0,.int .i64 0,.int .i64 0,.nils,.int .i64 0,.int .i64 0,.str [],.str [],.nils]])).bind fun p8=>(a0N tab a0C [0,1,2] [t1,t2,t3]).bind fun t18=>(some ((.ptr p8.2.length 0 0:D),a1h p8.2 a0C 10 [[.int .i64 0,.int .i64 0,.int .i64 0,.int .i64 0,.nils,.int .i64 0,.int .i64 0,.str [],.str [],.nils]])).bind fun p9=>((a0p tab p9.2 a0C p9.1 t18).bind fun h'=>some ((.und:D),h')).bind fun p905=>(R a2f [t0,.int .i64 3] p905.2).bind fun p21=>(a0f tab .add ty3 (.int .i64 1) p21.1).bind fun t22=>((a0z (b5c t0 p9) [t3,t22,.any,.any,.any] p21.2).bind fun r=>some ((a0w 0 r.1),[nth 0 r.2.1,nth 1 r.2.1,nth 2 r.2.1,nth 3 r.2.1,nth 4 r.2.1],r.2.2)).bind fun r_1=>a0y r_1.1 ((a0b tab a0C 3 p9.1).bind fun t48=>((a0p tab r_1.2.2 ty3 t48 (nth 0 r_1.2.1)).bind fun h'=>some ((.und:D),h')).bind fun p902=>(R a2f [t0,.int .i64 5] p902.2).bind fun p50=>(a0f tab .eql ty3 p50.1 (.int .i64 4)).bind fun t51=>dIf t51
  (((a0z (b5d p9) [.int .i64 0,.any] p50.2).bind fun r_2=>some ((a0w 2 r_2.1),[nth 0 r_2.2.1,nth 1 r_2.2.1],r_2.2.2)).bind fun r_3=>a0y r_3.1 ((a0J tab a1d 3 [0,1,2] [.str [115,97,109,112,108,101],.str [100,114,111,112],.str [116,111,111,45,108,111,110,103]]).bind fun t64=>(R a2f [t0,.int .i64 3] r_3.2.2).bind fun p66=>(a0a tab a1d t64 p66.1).bind fun t67=>(a0c tab p66.2 ty9 t67).bind fun t68=>(a0c tab p66.2 a0C p9.1).bind fun t69=>(a0N tab a2a [0,1] [t68,t69]).bind fun t70=>chk (a0c tab r_3.2.2 a0C p9.1=some t69)
 (((a0p tab p66.2 a2a p8.1 t70).bind fun h'=>some ((.und:D),h')).bind fun p907=>(a0c tab p907.2 a2a p8.1).bind fun d0=>scope h p907.2 (a0m [d0]))) fun x_1=>a0y x_1 ((R c1C [t0] r_3.2.2).bind fun p72=>(R c1J [t0] p72.2).bind fun p74=>(a0b tab a0C 5 p9.1).bind fun t75=>((a0p tab p74.2 ty3 t75 p72.1).bind fun h'=>some ((.und:D),h')).bind fun p905_2=>(a0b tab a0C 6 p9.1).bind fun t76=>((a0p tab p905_2.2 ty3 t76 p74.1).bind fun h'=>some ((.und:D),h')).bind fun p907_1=>(a0J tab a1d 4 [0,1,2,3] [.str [116,49],.str [116,50],.str [],.str [49,58,50,58,48]]).bind fun t77=>(R a2f [t0,.int .i64 4] p907_1.2).bind fun p79=>(a0a tab a1d t77 p79.1).bind fun t80=>(a0c tab p79.2 ty9 t80).bind fun t81=>(a0J tab a1d 2 [0,1] [.str [109,97,105,110],.str [100,101,98,117,103]]).bind fun t82=>(R a2f [t0,.int .i64 2] p79.2).bind fun p84=>(a0a tab a1d t82 p84.1).bind fun t85=>(a0c tab p84.2 ty9 t85).bind fun t86=>(a0b tab a0C 7 p9.1).bind fun t87=>((a0p tab p84.2 ty9 t87 t81).bind fun h'=>some ((.und:D),h')).bind fun p911=>chk (a0c tab p84.2 ty9 t80=some t81)
 (chk (a0c tab p911.2 ty9 t85=some t86)
 ((a0b tab a0C 8 p9.1).bind fun t88=>((a0p tab p911.2 ty9 t88 t86).bind fun h'=>some ((.und:D),h')).bind fun p913=>(R b9N [t0] p913.2).bind fun p90=>(a0b tab a0C 9 p9.1).bind fun t91=>((a0p tab p90.2 a3F t91 p90.1).bind fun h'=>some ((.und:D),h')).bind fun p903=>(a0c tab p903.2 a0C p9.1).bind fun t92=>(a0N tab a2a [1] [t92]).bind fun t93=>((a0p tab p903.2 a2a p8.1 t93).bind fun h'=>some ((.und:D),h')).bind fun p902_1=>(a0c tab p902_1.2 a2a p8.1).bind fun d0=>scope h p902_1.2 (a0m [d0])))) fun x_2=>a0M x_2 ((a0c tab r_3.2.2 a2a p8.1).bind fun d0=>scope h r_3.2.2 (a0m [d0])))
  ((R c1C [t0] p50.2).bind fun p72_1=>(R c1J [t0] p72_1.2).bind fun p74_1=>(a0b tab a0C 5 p9.1).bind fun t75_1=>((a0p tab p74_1.2 ty3 t75_1 p72_1.1).bind fun h'=>some ((.und:D),h')).bind fun p905_3=>(a0b tab a0C 6 p9.1).bind fun t76_1=>((a0p tab p905_3.2 ty3 t76_1 p74_1.1).bind fun h'=>some ((.und:D),h')).bind fun p907_2=>(a0J tab a1d 4 [0,1,2,3] [.str [116,49],.str [116,50],.str [],.str [49,58,50,58,48]]).bind fun t77_1=>(R a2f [t0,.int .i64 4] p907_2.2).bind fun p79_1=>(a0a tab a1d t77_1 p79_1.1).bind fun t80_1=>(a0c tab p79_1.2 ty9 t80_1).bind fun t81_1=>(a0J tab a1d 2 [0,1] [.str [109,97,105,110],.str [100,101,98,117,103]]).bind fun t82_1=>(R a2f [t0,.int .i64 2] p79_1.2).bind fun p84_1=>(a0a tab a1d t82_1 p84_1.1).bind fun t85_1=>(a0c tab p84_1.2 ty9 t85_1).bind fun t86_1=>(a0b tab a0C 7 p9.1).bind fun t87_1=>((a0p tab p84_1.2 ty9 t87_1 t81_1).bind fun h'=>some ((.und:D),h')).bind fun p911_1=>chk (a0c tab p84_1.2 ty9 t80_1=some t81_1)
 (chk (a0c tab p911_1.2 ty9 t85_1=some t86_1)
 ((a0b tab a0C 8 p9.1).bind fun t88_1=>((a0p tab p911_1.2 ty9 t88_1 t86_1).bind fun h'=>some ((.und:D),h')).bind fun p913_1=>(R b9N [t0] p913_1.2).bind fun p90_1=>(a0b tab a0C 9 p9.1).bind fun t91_1=>((a0p tab p90_1.2 a3F t91_1 p90_1.1).bind fun h'=>some ((.und:D),h')).bind fun p903_1=>(a0c tab p903_1.2 a0C p9.1).bind fun t92_1=>(a0N tab a2a [1] [t92_1]).bind fun t93_1=>((a0p tab p903_1.2 a2a p8.1 t93_1).bind fun h'=>some ((.und:D),h')).bind fun p902_2=>(a0c tab p902_2.2 a2a p8.1).bind fun d0=>scope h p902_2.2 (a0m [d0]))))) fun x=>a0M x ((a0c tab r_1.2.2 a2a p8.1).bind fun d0=>scope h r_1.2.2 (a0m [d0]))
theorem e84 (t0 t1 t2 t3:D) (h:Hp):R c1H [t0,t1,t2,t3] h=F84 t0 t1 t2 t3 h :=
 er i39 (by kernel_rfl) (by kernel_rfl)
noncomputable def a9j (t0 t1:D) (ds:List D) (h_1:Hp):Option Out :=
 (a0f tab .lss ty3 (nth 0 ds) (nth 1 ds)).bind fun t13=>dIf t13
  ((a0f tab .add ty3 (nth 0 ds) (nth 1 ds)).bind fun t16=>(a0f tab .quo ty3 t16 (.int .i64 2)).bind fun t17=>(a0a tab a1d t0 t17).bind fun t20=>(a0c tab h_1 ty9 t20).bind fun t21=>(a0f tab .lss ty9 t21 t1).bind fun t23=>(dIf t23
  ((a0f tab .add ty3 t17 (.int .i64 1)).bind fun t25=>some (.nrm,[t25,nth 1 ds],h_1))
  (some (.nrm,[nth 0 ds,t17],h_1))).bind fun r_1=>some ((a0w 1 r_1.1),[nth 0 r_1.2.1,nth 1 r_1.2.1,t17,t13,t23],r_1.2.2))
  (some ((.ext 0),[nth 0 ds,nth 1 ds,nth 2 ds,t13,nth 4 ds],h_1))
noncomputable def b8X (t0 t1:D) (h:Hp):Option (D × Hp) :=
 (a0B tab a1d t0).bind fun t10=>((a0z (a9j t0 t1) [.int .i64 0,t10,.any,.any,.any] h).bind fun r=>some ((a0w 0 r.1),[nth 0 r.2.1,nth 1 r.2.1,nth 2 r.2.1,nth 3 r.2.1,nth 4 r.2.1],r.2.2)).bind fun r_2=>a0y r_2.1 ((a0B tab a1d t0).bind fun t30=>(a0f tab .lss ty3 (nth 0 r_2.2.1) t30).bind fun t31=>(gd t31 true (some t0)).bind fun t33=>(gd t31 true (some (nth 0 r_2.2.1))).bind fun t34=>(gd t31 true (a0a tab a1d t33 t34)).bind fun t35=>(gd t31 true (a0c tab r_2.2.2 ty9 t35)).bind fun t36=>(gd t31 true (some t1)).bind fun t37=>(gd t31 true (a0f tab .eql ty9 t36 t37)).bind fun t38=>(a0K t31 t38 (.bool false)).bind fun t39=>some (a0m [nth 0 r_2.2.1,t39],r_2.2.2)) fun x=>a0M x (some (a0m [.int .i64 0,.bool false],r_2.2.2))
theorem c3g (t0 t1:D) (h:Hp):R a7G [t0,t1] h=b8X t0 t1 h :=
 er i40 (by kernel_rfl) (by kernel_rfl)
noncomputable def a9k (t0:D) (ds:List D) (h_1:Hp):Option Out :=
 (a0B tab ty9 t0).bind fun t9=>(a0f tab .leq ty3 (nth 2 ds) t9).bind fun t10=>dIf t10
  (((a0B tab ty9 t0).bind fun t15=>(a0f tab .lss ty3 (nth 2 ds) t15).bind fun t16=>(dIf t16
  ((a2N tab ty9 t0 (nth 2 ds)).bind fun t19=>(R b1Q [t19] h_1).bind fun p20=>some (.nrm,[p20.1],p20.2))
  (some (.nrm,[.int .u8 0],h_1))).bind fun r_1=>a0y r_1.1 ((a0f tab .neq ty5 (nth 0 r_1.2.1) (.int .u8 0)).bind fun t22=>dIf t22
  ((a0J tab a3h 1 [0] [nth 0 r_1.2.1]).bind fun t25=>(a0D tab r_1.2.2 a3h a3h (nth 1 ds) t25).bind fun p26=>some (.nrm,[nth 0 ds,p26.1,nth 0 r_1.2.1,t16,t22,nth 7 ds],p26.2))
  ((a0B tab a3h (nth 1 ds)).bind fun t28=>(a0f tab .gtr ty3 t28 (.int .i64 0)).bind fun t29=>(gd t29 true (some (nth 1 ds))).bind fun t31=>(gd t29 true (a0B tab a3h t31)).bind fun t32=>(gd t29 true (a0f tab .leq ty3 t32 (.int .i64 40))).bind fun t33=>(a0K t29 t33 (.bool false)).bind fun t34=>(dIf t34
  ((a3u r_1.2.2 (nth 1 ds)).bind fun t37=>(a0J tab a1d 1 [0] [t37]).bind fun t38=>(a0D tab r_1.2.2 a1d a1d (nth 0 ds) t38).bind fun p39=>some (.nrm,[p39.1],p39.2))
  (some (.nrm,[nth 0 ds],r_1.2.2))).bind fun r_2=>a0y r_2.1 (some (.nrm,[nth 0 r_2.2.1,.nils,nth 0 r_1.2.1,t16,t22,t34],r_2.2.2)) fun x_1=>some ((a0w 1 x_1),[nth 0 r_2.2.1,nth 1 ds,nth 0 r_1.2.1,t16,t22,t34],r_2.2.2))) fun x=>some ((a0w 1 x),[nth 0 ds,nth 1 ds,nth 0 r_1.2.1,t16,nth 6 ds,nth 7 ds],r_1.2.2)).bind fun r_3=>a0y r_3.1 ((a0f tab .add ty3 (nth 2 ds) (.int .i64 1)).bind fun t12=>some (.nrm,[nth 0 r_3.2.1,nth 1 r_3.2.1,t12,nth 2 r_3.2.1,t10,nth 3 r_3.2.1,nth 4 r_3.2.1,nth 5 r_3.2.1],r_3.2.2)) fun x_2=>some (x_2,[nth 0 r_3.2.1,nth 1 r_3.2.1,nth 2 ds,nth 2 r_3.2.1,t10,nth 3 r_3.2.1,nth 4 r_3.2.1,nth 5 r_3.2.1],r_3.2.2))
  (some ((.ext 0),[nth 0 ds,nth 1 ds,nth 2 ds,nth 3 ds,t10,nth 5 ds,nth 6 ds,nth 7 ds],h_1))
noncomputable def b8Y (t0:D) (h:Hp):Option (D × Hp) :=
 ((a0z (a9k t0) [.nils,.nils,.int .i64 0,.any,.any,.any,.any,.any] h).bind fun r=>some ((a0w 0 r.1),[nth 0 r.2.1,nth 1 r.2.1,nth 2 r.2.1,nth 3 r.2.1,nth 4 r.2.1,nth 5 r.2.1,nth 6 r.2.1,nth 7 r.2.1],r.2.2)).bind fun r_4=>a0y r_4.1 ((R a5E [nth 0 r_4.2.1] r_4.2.2).bind fun p41=>scope h p41.2 (a0m [p41.1])) fun x_3=>a0M x_3 (scope h r_4.2.2 (a0m [.nils]))
theorem c3h (t0:D) (h:Hp):R a7H [t0] h=b8Y t0 h :=
 er i41 (by kernel_rfl) (by kernel_rfl)
noncomputable def a8M (t1:D) (ds:List D) (h_1:Hp):Option Out :=
 (a0b tab a0C 4 t1).bind fun t6=>(a0c tab h_1 a3s t6).bind fun t7=>(a0B tab a3s t7).bind fun t8=>(a0f tab .lss ty3 (nth 1 ds) t8).bind fun t9=>dIf t9
  ((a0f tab .gtr ty3 (nth 1 ds) (.int .i64 0)).bind fun t13=>(dIf t13
  ((a0f tab .add ty9 (nth 0 ds) (.str [10])).bind fun t15=>some (.nrm,[t15],h_1))
  (some (.nrm,[nth 0 ds],h_1))).bind fun r_1=>a0y r_1.1 ((a0b tab a0C 4 t1).bind fun t17=>(a0c tab r_1.2.2 a3s t17).bind fun t18=>(a0a tab a3s t18 (nth 1 ds)).bind fun t20=>(a0b tab a7f 2 t20).bind fun t21=>(a0c tab r_1.2.2 ty9 t21).bind fun t22=>(a0f tab .add ty9 (nth 0 r_1.2.1) t22).bind fun t23=>(a0f tab .add ty3 (nth 1 ds) (.int .i64 1)).bind fun t11=>some (.nrm,[t23,t11,t9,t13],r_1.2.2)) fun x=>a0y (a0w 1 x) ((a0f tab .add ty3 (nth 1 ds) (.int .i64 1)).bind fun t11_1=>some (.nrm,[nth 0 r_1.2.1,t11_1,t9,t13],r_1.2.2)) fun x_1=>some (x_1,[nth 0 r_1.2.1,nth 1 ds,t9,t13],r_1.2.2))
  (some ((.ext 0),[nth 0 ds,nth 1 ds,t9,nth 3 ds],h_1))
noncomputable def b8h (t0:D) (h:Hp):Option (D × Hp) :=
 (a1Z t0).bind fun t1=>((a0z (a8M t1) [.str [],.int .i64 0,.any,.any] h).bind fun r=>some ((a0w 0 r.1),[nth 0 r.2.1,nth 1 r.2.1,nth 2 r.2.1,nth 3 r.2.1],r.2.2)).bind fun r_2=>a0y r_2.1 (some (a0m [nth 0 r_2.2.1],r_2.2.2)) fun x_2=>a0M x_2 (some (a0m [.str []],r_2.2.2))
theorem c2p (t0:D) (h:Hp):R a5C [t0] h=b8h t0 h :=
 er i42 (by kernel_rfl) (by kernel_rfl)
noncomputable def b8Z (t0 t1:D) (h:Hp):Option (D × Hp) :=
 (R b1R [t0,t1] h).bind fun p10=>(a0r 0 p10.1).bind fun t11=>(a0r 1 p10.1).bind fun t12=>(a0f tab .lss ty3 t11 t12).bind fun t15=>some (a0m [t15],p10.2)
theorem c3i (t0 t1:D) (h:Hp):R b1P [t0,t1] h=b8Z t0 t1 h :=
 er i43 (by kernel_rfl) (by kernel_rfl)
noncomputable def a9l (t0 t1:D) (ds:List D) (h_1:Hp):Option Out :=
 (a0B tab ty9 t1).bind fun t8=>(a0f tab .add ty3 (nth 1 ds) t8).bind fun t9=>(a0B tab ty9 t0).bind fun t11=>(a0f tab .leq ty3 t9 t11).bind fun t12=>dIf t12
  ((a0B tab ty9 t1).bind fun t19=>(a0f tab .add ty3 (nth 1 ds) t19).bind fun t20=>(a0E tab ty9 true true false [t0,nth 1 ds,t20]).bind fun t21=>(a0f tab .eql ty9 t21 t1).bind fun t23=>dIf t23
  (some (.ret,[.bool true,nth 1 ds,t12,t23],h_1))
  ((a0f tab .add ty3 (nth 1 ds) (.int .i64 1)).bind fun t14=>some (.nrm,[nth 0 ds,t14,t12,t23],h_1)))
  (some ((.ext 0),[nth 0 ds,nth 1 ds,t12,nth 3 ds],h_1))
noncomputable def b9a (t0 t1:D) (h:Hp):Option (D × Hp) :=
 ((a0z (a9l t0 t1) [.bool false,.int .i64 0,.any,.any] h).bind fun r=>some ((a0w 0 r.1),[nth 0 r.2.1,nth 1 r.2.1,nth 2 r.2.1,nth 3 r.2.1],r.2.2)).bind fun r_1=>a0y r_1.1 (some (a0m [.bool false],r_1.2.2)) fun x=>a0M x (some (a0m [nth 0 r_1.2.1],r_1.2.2))
theorem c3j (t0 t1:D) (h:Hp):R a9L [t0,t1] h=b9a t0 t1 h :=
 er i44 (by kernel_rfl) (by kernel_rfl)
noncomputable def b0N (t0 t1:D) (h:Hp):Option (D × Hp) :=
 (a1Z t0).bind fun t2=>(a0f tab .eql ty9 t1 (.str [64,104,111,115,116])).bind fun t8=>dIf t8
  ((a0b tab a0C 0 t2).bind fun t9=>(a0c tab h ty3 t9).bind fun t10=>(R a4m [t10] h).bind fun p11=>some (a0m [p11.1,.bool true],p11.2))
  ((a0f tab .eql ty9 t1 (.str [64,102,105,108,101])).bind fun t13=>dIf t13
  ((a0b tab a0C 1 t2).bind fun t14=>(a0c tab h ty3 t14).bind fun t15=>(R a4m [t15] h).bind fun p16=>some (a0m [p16.1,.bool true],p16.2))
  ((a0f tab .eql ty9 t1 (.str [64,116,105,109,101])).bind fun t18=>dIf t18
  ((a0b tab a0C 5 t2).bind fun t19=>(a0c tab h ty3 t19).bind fun t20=>(R a4m [t20] h).bind fun p21=>some (a0m [p21.1,.bool true],p21.2))
  ((a0f tab .eql ty9 t1 (.str [64,119,101,105,103,104,116])).bind fun t23=>dIf t23
  ((a0b tab a0C 6 t2).bind fun t24=>(a0c tab h ty3 t24).bind fun t25=>(R a4m [t25] h).bind fun p26=>some (a0m [p26.1,.bool true],p26.2))
  ((a0f tab .eql ty9 t1 (.str [64,116,114,97,99,101])).bind fun t28=>dIf t28
  ((a0b tab a0C 7 t2).bind fun t29=>(a0c tab h ty9 t29).bind fun t30=>some (a0m [t30,.bool true],h))
  ((a0f tab .eql ty9 t1 (.str [64,115,116,114,101,97,109])).bind fun t32=>dIf t32
  ((a0b tab a0C 8 t2).bind fun t33=>(a0c tab h ty9 t33).bind fun t34=>some (a0m [t34,.bool true],h))
  ((a0b tab a0C 9 t2).bind fun t35=>(a0c tab h a3F t35).bind fun t36=>(R c3z [t36,t1] h).bind fun p38=>(a0r 0 p38.1).bind fun t39=>(a0r 1 p38.1).bind fun t40=>some (a0m [t39,t40],p38.2)))))))
theorem b9t (t0 t1:D) (h:Hp):R a5D [t0,t1] h=b0N t0 t1 h :=
 er i45 (by kernel_rfl) (by kernel_rfl)
noncomputable def b8j (t0 t1:D) (h:Hp):Option (D × Hp) :=
 (a1Z t0).bind fun t2=>(a0c tab h a0C t2).bind fun t9=>(R a5D [t9,t1] h).bind fun p11=>(a0r 0 p11.1).bind fun t12=>(a0r 1 p11.1).bind fun t13=>(dUn .not t13).bind fun t15=>dIf t15
  (some (a0m [.int .i64 0,.bool false],p11.2))
  ((R b1B [t12] p11.2).bind fun p17=>(a0r 0 p17.1).bind fun t18=>(a0r 1 p17.1).bind fun t19=>some (a0m [t18,t19],p17.2))
theorem c2r (t0 t1:D) (h:Hp):R b1A [t0,t1] h=b8j t0 t1 h :=
 er i46 (by kernel_rfl) (by kernel_rfl)
noncomputable def F75 (t0 t1:D) (h:Hp):Option (D × Hp) :=
 (a1Z t0).bind fun t2=>(a0b tab a0C 9 t2).bind fun t6=>(a0c tab h a3F t6).bind fun t7=>(R c3y [t7,t1] h).bind fun p9=>(a0r 0 p9.1).bind fun t10=>(a0r 1 p9.1).bind fun t11=>some (a0m [t10,t11],p9.2)
theorem e75 (t0 t1:D) (h:Hp):R c1G [t0,t1] h=F75 t0 t1 h :=
 er i48 (by kernel_rfl) (by kernel_rfl)
noncomputable def a6a (t0 t4:D) (ds:List D) (h_1:Hp):Option Out :=
 ((a0f tab .sub ty3 (nth 1 ds) (nth 0 ds)).bind fun t23=>(a0f tab .leq ty3 t23 (.int .i64 12)).bind fun t25=>dIf t25
  ((R a4X [t0,nth 0 ds,nth 1 ds,t4] h_1).bind fun p30=>some (.ret,[nth 0 ds,nth 1 ds,nth 2 ds,nth 3 ds,nth 4 ds,t23,nth 6 ds,nth 7 ds,nth 8 ds,nth 9 ds,nth 10 ds,nth 11 ds,nth 12 ds,nth 13 ds,t25,nth 15 ds,nth 16 ds,nth 17 ds,nth 18 ds,nth 19 ds,nth 20 ds,nth 21 ds],p30.2))
  ((a0f tab .eql ty3 (nth 2 ds) (.int .i64 0)).bind fun t32=>dIf t32
  ((R b1J [t0,nth 0 ds,nth 1 ds,t4] h_1).bind fun p37=>some (.ret,[nth 0 ds,nth 1 ds,nth 2 ds,nth 3 ds,nth 4 ds,t23,nth 6 ds,nth 7 ds,nth 8 ds,nth 9 ds,nth 10 ds,nth 11 ds,nth 12 ds,nth 13 ds,t25,t32,nth 16 ds,nth 17 ds,nth 18 ds,nth 19 ds,nth 20 ds,nth 21 ds],p37.2))
  ((dUn .not (nth 3 ds)).bind fun t39=>(dIf t39
  ((R b1K [t0,nth 0 ds,nth 1 ds,t4] h_1).bind fun p44=>(a0f tab .sub ty3 (nth 2 ds) (.int .i64 1)).bind fun t46=>some (.nrm,[t46],p44.2))
  (some (.nrm,[nth 2 ds],h_1))).bind fun r_1=>a0y r_1.1 ((R a9E [t0,nth 0 ds,nth 1 ds,t4] r_1.2.2).bind fun p52=>(a0r 0 p52.1).bind fun t53=>(a0r 1 p52.1).bind fun t54=>(a0f tab .eql a8e t54 (.int .i64 2)).bind fun t56=>(dIf t56
  ((R b1L [t0,nth 0 ds,nth 1 ds,t4] p52.2).bind fun p61=>(a0f tab .sub ty3 (nth 1 ds) (.int .i64 1)).bind fun t63=>(a0f tab .sub ty3 t53 (nth 0 ds)).bind fun t66=>(a0f tab .sub ty3 t63 t66).bind fun t67=>some (.nrm,[t67,.int .i64 1],p61.2))
  (some (.nrm,[t53,t54],p52.2))).bind fun r_2=>a0y r_2.1 ((gd (nth 3 ds) true (some (nth 4 ds))).bind fun t70=>(a0K (nth 3 ds) t70 (.bool false)).bind fun t71=>(gd t71 true (some (nth 1 r_2.2.1))).bind fun t73=>(gd t71 true (a0f tab .eql a8e t73 (.int .i64 1))).bind fun t74=>(a0K t71 t74 (.bool false)).bind fun t75=>(dIf t75
  ((R b1M [t0,nth 0 ds,nth 1 ds,t4] r_2.2.2).bind fun p80=>dIf p80.1
  (some (.ret,[p80.1],p80.2))
  (some (.nrm,[p80.1],p80.2)))
  (some (.nrm,[nth 19 ds],r_2.2.2))).bind fun r_3=>a0y r_3.1 ((a0f tab .gtr ty3 (nth 0 ds) (.int .i64 0)).bind fun t82=>(gd t82 true (some t4)).bind fun t84=>(gd t82 true (some t0)).bind fun t85=>(gd t82 true (some (nth 0 ds))).bind fun t86=>(gd t82 true (a0f tab .sub ty3 t86 (.int .i64 1))).bind fun t87=>(gd t82 true (a0a tab a0u t85 t87)).bind fun t88=>(gd t82 true (a0c tab r_3.2.2 a0h t88)).bind fun t89=>(gd t82 true (some t0)).bind fun t90=>(gd t82 true (some (nth 0 r_2.2.1))).bind fun t91=>(gd t82 true (a0a tab a0u t90 t91)).bind fun t92=>(gd t82 true (a0c tab r_3.2.2 a0h t92)).bind fun t93=>(gdW t82 true r_3.2.2 (a1B R t84 [t89,t93] r_3.2.2)).bind fun p94=>(gd t82 true (a0f tab .lss ty3 p94.1 (.int .i64 0))).bind fun t95=>(gd t82 true (dUn .not t95)).bind fun t96=>(a0K t82 t96 (.bool false)).bind fun t97=>dIf t97
  ((R b5t [t0,nth 0 ds,nth 1 ds,nth 0 r_2.2.1,t4] p94.2).bind fun p103=>some (.nrm,[p103.1,nth 1 ds,nth 0 r_1.2.1,nth 3 ds,nth 4 ds,t23,nth 0 r_2.2.1,nth 1 r_2.2.1,p103.1,nth 9 ds,nth 10 ds,nth 11 ds,nth 12 ds,nth 13 ds,t25,t32,t39,t56,t75,nth 0 r_3.2.1,t97,nth 21 ds],p103.2))
  ((R b1N [t0,nth 0 ds,nth 1 ds,nth 0 r_2.2.1,t4] p94.2).bind fun p111=>(a0r 0 p111.1).bind fun t112=>(a0r 1 p111.1).bind fun t113=>(a0f tab .sub ty3 t112 (nth 0 ds)).bind fun t117=>(a0f tab .sub ty3 (nth 1 ds) t112).bind fun t120=>(a0f tab .quo ty3 t23 (.int .i64 8)).bind fun t122=>(a0f tab .lss ty3 t117 t120).bind fun t125=>(dIf t125
  ((a0f tab .geq ty3 t117 t122).bind fun t128=>(R a5I [t0,nth 0 ds,t112,nth 0 r_1.2.1,t4] p111.2).bind fun p134=>(a0f tab .add ty3 t112 (.int .i64 1)).bind fun t136=>some (.nrm,[t136,nth 1 ds,t128],p134.2))
  ((a0f tab .geq ty3 t120 t122).bind fun t139=>(a0f tab .add ty3 t112 (.int .i64 1)).bind fun t142=>(R a5I [t0,t142,nth 1 ds,nth 0 r_1.2.1,t4] p111.2).bind fun p146=>some (.nrm,[nth 0 ds,t112,t139],p146.2))).bind fun r_4=>some ((a0w 1 r_4.1),[nth 0 r_4.2.1,nth 1 r_4.2.1,nth 0 r_1.2.1,nth 2 r_4.2.1,t113,t23,nth 0 r_2.2.1,nth 1 r_2.2.1,nth 8 ds,t112,t113,t117,t120,t122,t25,t32,t39,t56,t75,nth 0 r_3.2.1,t97,t125],r_4.2.2))) fun x_2=>some ((a0w 1 x_2),[nth 0 ds,nth 1 ds,nth 0 r_1.2.1,nth 3 ds,nth 4 ds,t23,nth 0 r_2.2.1,nth 1 r_2.2.1,nth 8 ds,nth 9 ds,nth 10 ds,nth 11 ds,nth 12 ds,nth 13 ds,t25,t32,t39,t56,t75,nth 0 r_3.2.1,nth 20 ds,nth 21 ds],r_3.2.2)) fun x_1=>some ((a0w 1 x_1),[nth 0 ds,nth 1 ds,nth 0 r_1.2.1,nth 3 ds,nth 4 ds,t23,nth 0 r_2.2.1,nth 1 r_2.2.1,nth 8 ds,nth 9 ds,nth 10 ds,nth 11 ds,nth 12 ds,nth 13 ds,t25,t32,t39,t56,nth 18 ds,nth 19 ds,nth 20 ds,nth 21 ds],r_2.2.2)) fun x=>some ((a0w 1 x),[nth 0 ds,nth 1 ds,nth 0 r_1.2.1,nth 3 ds,nth 4 ds,t23,nth 6 ds,nth 7 ds,nth 8 ds,nth 9 ds,nth 10 ds,nth 11 ds,nth 12 ds,nth 13 ds,t25,t32,t39,nth 17 ds,nth 18 ds,nth 19 ds,nth 20 ds,nth 21 ds],r_1.2.2)))).bind fun r_5=>some (r_5.1,[nth 0 r_5.2.1,nth 1 r_5.2.1,nth 2 r_5.2.1,nth 3 r_5.2.1,nth 4 r_5.2.1,nth 5 r_5.2.1,nth 6 r_5.2.1,nth 7 r_5.2.1,nth 8 r_5.2.1,nth 9 r_5.2.1,nth 10 r_5.2.1,nth 11 r_5.2.1,nth 12 r_5.2.1,nth 13 r_5.2.1,nth 14 r_5.2.1,nth 15 r_5.2.1,nth 16 r_5.2.1,nth 17 r_5.2.1,nth 18 r_5.2.1,nth 19 r_5.2.1,nth 20 r_5.2.1,nth 21 r_5.2.1],r_5.2.2)
noncomputable def b6c (t0 t1 t2 t3 t4:D) (h:Hp):Option (D × Hp) :=
 (a0z (a6a t0 t4) [t1,t2,t3,.bool true,.bool true,.any,.any,.any,.any,.any,.any,.any,.any,.any,.any,.any,.any,.any,.any,.any,.any,.any] h).bind fun r=>a0M (a0w 0 r.1) (some (a0m [],r.2.2))
theorem b9z (t0 t1 t2 t3 t4:D) (h:Hp):R a5I [t0,t1,t2,t3,t4] h=b6c t0 t1 t2 t3 t4 h :=
 er i49 (by kernel_rfl) (by kernel_rfl)
noncomputable def F91 (t0 t1:D) (h:Hp):Option (D × Hp) :=
 (R b4k [t0] h).bind fun p8=>(R b4k [t1] p8.2).bind fun p10=>dIf p8.1
  (dIf p10.1
  (some (a0m [.int .i64 0],p10.2))
  (some (a0m [.int .i64 (-1)],p10.2)))
  (dIf p10.1
  (some (a0m [.int .i64 1],p10.2))
  ((a0f tab .lss ty9 t0 t1).bind fun t16=>dIf t16
  (some (a0m [.int .i64 (-1)],p10.2))
  ((a0f tab .gtr ty9 t0 t1).bind fun t19=>dIf t19
  (some (a0m [.int .i64 1],p10.2))
  (some (a0m [.int .i64 0],p10.2)))))
theorem e91 (t0 t1:D) (h:Hp):R c3B [t0,t1] h=F91 t0 t1 h :=
 er i50 (by kernel_rfl) (by kernel_rfl)
noncomputable def a6c (t0 t1 t3:D) (ds_1:List D) (h_2:Hp):Option Out :=
 (a0f tab .gtr ty3 (nth 0 ds_1) t1).bind fun t20=>(gd t20 true (some t3)).bind fun t22=>(gd t20 true (some t0)).bind fun t23=>(gd t20 true (some (nth 0 ds_1))).bind fun t24=>(gd t20 true (a0a tab a0v t23 t24)).bind fun t25=>(gd t20 true (a0c tab h_2 a0i t25)).bind fun t26=>(gd t20 true (some t0)).bind fun t27=>(gd t20 true (some (nth 0 ds_1))).bind fun t28=>(gd t20 true (a0f tab .sub ty3 t28 (.int .i64 1))).bind fun t29=>(gd t20 true (a0a tab a0v t27 t29)).bind fun t30=>(gd t20 true (a0c tab h_2 a0i t30)).bind fun t31=>(gdW t20 true h_2 (a1B R t22 [t26,t31] h_2)).bind fun p32=>(gd t20 true (a0f tab .lss ty3 p32.1 (.int .i64 0))).bind fun t33=>(a0K t20 t33 (.bool false)).bind fun t34=>dIf t34
  ((a0f tab .sub ty3 (nth 0 ds_1) (.int .i64 1)).bind fun t41=>(a0f tab .sub ty3 (nth 0 ds_1) (.int .i64 1)).bind fun t44=>(a0a tab a0v t0 t44).bind fun t45=>(a0c tab p32.2 a0i t45).bind fun t46=>(a0a tab a0v t0 (nth 0 ds_1)).bind fun t49=>(a0c tab p32.2 a0i t49).bind fun t50=>(a0a tab a0v t0 (nth 0 ds_1)).bind fun t51=>((a0p tab p32.2 a0i t51 t46).bind fun h'=>some ((.und:D),h')).bind fun p915=>(a0a tab a0v t0 t41).bind fun t52=>((a0p tab p915.2 a0i t52 t50).bind fun h'=>some ((.und:D),h')).bind fun p917=>(a0f tab .sub ty3 (nth 0 ds_1) (.int .i64 1)).bind fun t36=>some (.nrm,[t36,t34],p917.2))
  (some ((.ext 2),[nth 0 ds_1,t34],p32.2))
noncomputable def a6b (t0 t1 t2 t3:D) (ds:List D) (h_1:Hp):Option Out :=
 (a0f tab .lss ty3 (nth 0 ds) t2).bind fun t14=>dIf t14
  (((a0z (a6c t0 t1 t3) [nth 0 ds,nth 3 ds] h_1).bind fun r_1=>some ((a0w 2 r_1.1),[nth 0 r_1.2.1,nth 1 r_1.2.1],r_1.2.2)).bind fun r_2=>a0y (a0w 1 r_2.1) ((a0f tab .add ty3 (nth 0 ds) (.int .i64 1)).bind fun t16=>some (.nrm,[t16,nth 0 r_2.2.1,t14,nth 1 r_2.2.1],r_2.2.2)) fun x=>some (x,[nth 0 ds,nth 0 r_2.2.1,t14,nth 1 r_2.2.1],r_2.2.2))
  (some ((.ext 0),[nth 0 ds,nth 1 ds,t14,nth 3 ds],h_1))
noncomputable def b6d (t0 t1 t2 t3:D) (h:Hp):Option (D × Hp) :=
 (a0f tab .add ty3 t1 (.int .i64 1)).bind fun t11=>((a0z (a6b t0 t1 t2 t3) [t11,.any,.any,.any] h).bind fun r=>some ((a0w 0 r.1),[nth 0 r.2.1,nth 1 r.2.1,nth 2 r.2.1,nth 3 r.2.1],r.2.2)).bind fun r_3=>a0M r_3.1 (some (a0m [],r_3.2.2))
theorem b9A (t0 t1 t2 t3:D) (h:Hp):R a4W [t0,t1,t2,t3] h=b6d t0 t1 t2 t3 h :=
 er i51 (by kernel_rfl) (by kernel_rfl)
noncomputable def a8Q (t0 t3 t8m t10m:D) (ds:List D) (h_1:Hp):Option Out :=
 (a0f tab .geq ty3 (nth 0 ds) (.int .i64 0)).bind fun t21=>dIf t21
  ((R a9F [t0,nth 0 ds,t10m,t8m,t3] h_1).bind fun p29=>(a0f tab .sub ty3 (nth 0 ds) (.int .i64 1)).bind fun t23=>some (.nrm,[t23,t21],p29.2))
  (some ((.ext 0),[nth 0 ds,t21],h_1))
noncomputable def a8R (t0 t3 t8m t9m:D) (ds_1:List D) (h_2:Hp):Option Out :=
 (a0f tab .geq ty3 (nth 0 ds_1) (.int .i64 0)).bind fun t33=>dIf t33
  ((a0f tab .add ty3 t8m (nth 0 ds_1)).bind fun t41=>(a0f tab .add ty3 t8m (nth 0 ds_1)).bind fun t45=>(a0a tab a0v t0 t45).bind fun t46=>(a0c tab h_2 a0i t46).bind fun t47=>(a0a tab a0v t0 t8m).bind fun t50=>(a0c tab h_2 a0i t50).bind fun t51=>(a0a tab a0v t0 t8m).bind fun t52=>((a0p tab h_2 a0i t52 t47).bind fun h'=>some ((.und:D),h')).bind fun p917=>(a0a tab a0v t0 t41).bind fun t53=>((a0p tab p917.2 a0i t53 t51).bind fun h'=>some ((.und:D),h')).bind fun p919=>(R a9F [t0,t9m,nth 0 ds_1,t8m,t3] p919.2).bind fun p59=>(a0f tab .sub ty3 (nth 0 ds_1) (.int .i64 1)).bind fun t35=>some (.nrm,[t35,t33],p59.2))
  (some ((.ext 2),[nth 0 ds_1,t33],h_2))
noncomputable def b8v (t0 t1 t2 t3:D) (h:Hp):Option (D × Hp) :=
 (a0f tab .sub ty3 t2 t1).bind fun t16=>(a0f tab .sub ty3 t16 (.int .i64 1)).bind fun t18=>(a0f tab .quo ty3 t18 (.int .i64 2)).bind fun t19=>((a0z (a8Q t0 t3 t1 t16) [t19,.any] h).bind fun r=>some ((a0w 0 r.1),[nth 0 r.2.1,nth 1 r.2.1],r.2.2)).bind fun r_1=>a0y r_1.1 ((a0f tab .sub ty3 t16 (.int .i64 1)).bind fun t31=>((a0z (a8R t0 t3 t1 (.int .i64 0)) [t31,.any] r_1.2.2).bind fun r_2=>some ((a0w 2 r_2.1),[nth 0 r_2.2.1,nth 1 r_2.2.1],r_2.2.2)).bind fun r_3=>a0M r_3.1 (some (a0m [],r_3.2.2))) fun x=>a0M x (some (a0m [],r_1.2.2))
theorem c2E (t0 t1 t2 t3:D) (h:Hp):R b1E [t0,t1,t2,t3] h=b8v t0 t1 t2 t3 h :=
 er i52 (by kernel_rfl) (by kernel_rfl)
noncomputable def a8S (t0 t1 t8m:D) (p9:D × Hp) (t10m:D) (ds:List D) (h_1:Hp):Option Out :=
 (a0f tab .quo ty3 t8m (.int .i64 4)).bind fun t31=>(a0f tab .mul ty3 t31 (.int .i64 2)).bind fun t32=>(a0f tab .add ty3 t1 t32).bind fun t33=>(a0f tab .add ty3 t33 (.int .i64 1)).bind fun t34=>(a0f tab .leq ty3 (nth 0 ds) t34).bind fun t35=>dIf t35
  ((R a9H [p9.1] h_1).bind fun p38=>(a0f tab .sub a4i t10m (.int .u64 1)).bind fun t40=>(a0f tab .and a4i p38.1 t40).bind fun t41=>(a2e tab a4i ty3 t41).bind fun t42=>(a0f tab .geq ty3 t42 t8m).bind fun t45=>(dIf t45
  ((a0f tab .sub ty3 t42 t8m).bind fun t48=>some (.nrm,[t48],p38.2))
  (some (.nrm,[t42],p38.2))).bind fun r_1=>a0y r_1.1 ((a0f tab .add ty3 t1 (nth 0 r_1.2.1)).bind fun t54=>(a0f tab .add ty3 t1 (nth 0 r_1.2.1)).bind fun t58=>(a0a tab a0v t0 t58).bind fun t59=>(a0c tab r_1.2.2 a0i t59).bind fun t60=>(a0a tab a0v t0 (nth 0 ds)).bind fun t63=>(a0c tab r_1.2.2 a0i t63).bind fun t64=>(a0a tab a0v t0 (nth 0 ds)).bind fun t65=>((a0p tab r_1.2.2 a0i t65 t60).bind fun h'=>some ((.und:D),h')).bind fun p917=>(a0a tab a0v t0 t54).bind fun t66=>((a0p tab p917.2 a0i t66 t64).bind fun h'=>some ((.und:D),h')).bind fun p919=>(a0f tab .add ty3 (nth 0 ds) (.int .i64 1)).bind fun t37=>some (.nrm,[t37,nth 0 r_1.2.1,t35,t45],p919.2)) fun x=>a0y (a0w 1 x) ((a0f tab .add ty3 (nth 0 ds) (.int .i64 1)).bind fun t37_1=>some (.nrm,[t37_1,nth 0 r_1.2.1,t35,t45],r_1.2.2)) fun x_1=>some (x_1,[nth 0 ds,nth 0 r_1.2.1,t35,t45],r_1.2.2))
  (some ((.ext 0),[nth 0 ds,nth 1 ds,t35,nth 3 ds],h_1))
noncomputable def b8w (t0 t1 t2 t3:D) (h:Hp):Option (D × Hp) :=
 (a0f tab .sub ty3 t2 t1).bind fun t15=>(a0f tab .geq ty3 t15 (.int .i64 8)).bind fun t17=>(dIf t17
  ((a2e tab ty3 a0T t15).bind fun t19=>(some ((.ptr h.length 0 0:D),a1h h a0T 1 [[.int .u64 0]])).bind fun p9=>((a0p tab p9.2 a0T p9.1 t19).bind fun h'=>some ((.und:D),h')).bind fun p903=>(R a9G [t15] p903.2).bind fun p21=>(a0f tab .quo ty3 t15 (.int .i64 4)).bind fun t24=>(a0f tab .mul ty3 t24 (.int .i64 2)).bind fun t25=>(a0f tab .add ty3 t1 t25).bind fun t26=>(a0f tab .sub ty3 t26 (.int .i64 1)).bind fun t27=>((a0z (a8S t0 t1 t15 p9 p21.1) [t27,.any,.any,.any] p21.2).bind fun r=>some ((a0w 0 r.1),[nth 0 r.2.1,nth 1 r.2.1,nth 2 r.2.1,nth 3 r.2.1],r.2.2)).bind fun r_2=>some (r_2.1,[p9.1,p21.1,nth 0 r_2.2.1,nth 1 r_2.2.1,nth 2 r_2.2.1,nth 3 r_2.2.1],r_2.2.2))
  (some (.nrm,[.any,.any,.any,.any,.any,.any],h))).bind fun r_3=>a0M r_3.1 (scope h r_3.2.2 (a0m []))
theorem c2F (t0 t1 t2 t3:D) (h:Hp):R b1F [t0,t1,t2,t3] h=b8w t0 t1 t2 t3 h :=
 er i53 (by kernel_rfl) (by kernel_rfl)
noncomputable def b8x (t0 t1 t2 t3:D) (h:Hp):Option (D × Hp) :=
 (a0f tab .sub ty3 t2 t1).bind fun t17=>(some ((.ptr h.length 0 0:D),a1h h ty3 1 [[.int .i64 0]])).bind fun p11=>(a0f tab .quo ty3 t17 (.int .i64 4)).bind fun t20=>(a0f tab .mul ty3 t20 (.int .i64 1)).bind fun t21=>(a0f tab .add ty3 t1 t21).bind fun t22=>(a0f tab .quo ty3 t17 (.int .i64 4)).bind fun t25=>(a0f tab .mul ty3 t25 (.int .i64 2)).bind fun t26=>(a0f tab .add ty3 t1 t26).bind fun t27=>(a0f tab .quo ty3 t17 (.int .i64 4)).bind fun t30=>(a0f tab .mul ty3 t30 (.int .i64 3)).bind fun t31=>(a0f tab .add ty3 t1 t31).bind fun t32=>(a0f tab .geq ty3 t17 (.int .i64 8)).bind fun t34=>(dIf t34
  ((a0f tab .geq ty3 t17 (.int .i64 50)).bind fun t36=>(dIf t36
  ((R a7D [t0,t22,p11.1,t3] p11.2).bind fun p40=>(R a7D [t0,t27,p11.1,t3] p40.2).bind fun p44=>(R a7D [t0,t32,p11.1,t3] p44.2).bind fun p48=>some (.nrm,[p40.1,p44.1,p48.1],p48.2))
  (some (.nrm,[t22,t27,t32],p11.2))).bind fun r=>a0y r.1 ((R a9I [t0,nth 0 r.2.1,nth 1 r.2.1,nth 2 r.2.1,p11.1,t3] r.2.2).bind fun p54=>some (.nrm,[nth 0 r.2.1,p54.1,nth 2 r.2.1,t36],p54.2)) fun x=>some (x,[nth 0 r.2.1,nth 1 r.2.1,nth 2 r.2.1,t36],r.2.2))
  (some (.nrm,[t22,t27,t32,.any],p11.2))).bind fun r_1=>a0y r_1.1 ((a0c tab r_1.2.2 ty3 p11.1).bind fun t55=>(a0f tab .eql ty3 t55 (.int .i64 0)).bind fun t58=>dIf t58
  (scope h r_1.2.2 (a0m [nth 1 r_1.2.1,.int .i64 1]))
  ((a0f tab .eql ty3 t55 (.int .i64 12)).bind fun t61=>dIf t61
  (scope h r_1.2.2 (a0m [nth 1 r_1.2.1,.int .i64 2]))
  (scope h r_1.2.2 (a0m [nth 1 r_1.2.1,.int .i64 0])))) fun x_1=>a0M x_1 (scope h r_1.2.2 (a0m [.int .i64 0,.int .i64 0]))
theorem c2G (t0 t1 t2 t3:D) (h:Hp):R a9D [t0,t1,t2,t3] h=b8x t0 t1 t2 t3 h :=
 er i54 (by kernel_rfl) (by kernel_rfl)
noncomputable def a8T (t0:D) (ds:List D) (h_1:Hp):Option Out :=
 (a0f tab .lss ty3 (nth 0 ds) (nth 1 ds)).bind fun t15=>dIf t15
  ((a0a tab a0v t0 (nth 1 ds)).bind fun t22=>(a0c tab h_1 a0i t22).bind fun t23=>(a0a tab a0v t0 (nth 0 ds)).bind fun t26=>(a0c tab h_1 a0i t26).bind fun t27=>(a0a tab a0v t0 (nth 0 ds)).bind fun t28=>((a0p tab h_1 a0i t28 t23).bind fun h'=>some ((.und:D),h')).bind fun p913=>(a0a tab a0v t0 (nth 1 ds)).bind fun t29=>((a0p tab p913.2 a0i t29 t27).bind fun h'=>some ((.und:D),h')).bind fun p915=>(a0f tab .add ty3 (nth 0 ds) (.int .i64 1)).bind fun t31=>(a0f tab .sub ty3 (nth 1 ds) (.int .i64 1)).bind fun t33=>some (.nrm,[t31,t33,t15],p915.2))
  (some ((.ext 0),[nth 0 ds,nth 1 ds,t15],h_1))
noncomputable def b8y (t0 t1 t2 t3:D) (h:Hp):Option (D × Hp) :=
 (a0f tab .sub ty3 t2 (.int .i64 1)).bind fun t12=>((a0z (a8T t0) [t1,t12,.any] h).bind fun r=>some ((a0w 0 r.1),[nth 0 r.2.1,nth 1 r.2.1,nth 2 r.2.1],r.2.2)).bind fun r_1=>a0M r_1.1 (some (a0m [],r_1.2.2))
theorem c2H (t0 t1 t2 t3:D) (h:Hp):R b1G [t0,t1,t2,t3] h=b8y t0 t1 t2 t3 h :=
 er i55 (by kernel_rfl) (by kernel_rfl)
noncomputable def a6d (t0 t2 t3:D) (ds_1:List D) (h_2:Hp):Option Out :=
 (a0f tab .lss ty3 (nth 0 ds_1) t2).bind fun t21=>(gd t21 true (some t3)).bind fun t23=>(gd t21 true (some t0)).bind fun t24=>(gd t21 true (some (nth 0 ds_1))).bind fun t25=>(gd t21 true (a0a tab a0v t24 t25)).bind fun t26=>(gd t21 true (a0c tab h_2 a0i t26)).bind fun t27=>(gd t21 true (some t0)).bind fun t28=>(gd t21 true (some (nth 0 ds_1))).bind fun t29=>(gd t21 true (a0f tab .sub ty3 t29 (.int .i64 1))).bind fun t30=>(gd t21 true (a0a tab a0v t28 t30)).bind fun t31=>(gd t21 true (a0c tab h_2 a0i t31)).bind fun t32=>(gdW t21 true h_2 (a1B R t23 [t27,t32] h_2)).bind fun p33=>(gd t21 true (a0f tab .lss ty3 p33.1 (.int .i64 0))).bind fun t34=>(gd t21 true (dUn .not t34)).bind fun t35=>(a0K t21 t35 (.bool false)).bind fun t36=>dIf t36
  ((a0f tab .add ty3 (nth 0 ds_1) (.int .i64 1)).bind fun t38=>some (.nrm,[t38,t36],p33.2))
  (some ((.ext 2),[nth 0 ds_1,t36],p33.2))
noncomputable def a6e (t0 t3:D) (ds_2:List D) (h_3:Hp):Option Out :=
 (a0f tab .geq ty3 (nth 0 ds_2) (.int .i64 1)).bind fun t69=>dIf t69
  ((a0a tab a0v t0 (nth 0 ds_2)).bind fun t75=>(a0c tab h_3 a0i t75).bind fun t76=>(a0f tab .sub ty3 (nth 0 ds_2) (.int .i64 1)).bind fun t79=>(a0a tab a0v t0 t79).bind fun t80=>(a0c tab h_3 a0i t80).bind fun t81=>(a1B R t3 [t76,t81] h_3).bind fun p82=>(a0f tab .lss ty3 p82.1 (.int .i64 0)).bind fun t83=>(dUn .not t83).bind fun t84=>dIf t84
  (some ((.ext 4),[nth 0 ds_2,t69,t84],p82.2))
  ((a0f tab .sub ty3 (nth 0 ds_2) (.int .i64 1)).bind fun t89=>(a0f tab .sub ty3 (nth 0 ds_2) (.int .i64 1)).bind fun t92=>(a0a tab a0v t0 t92).bind fun t93=>(a0c tab p82.2 a0i t93).bind fun t94=>(a0a tab a0v t0 (nth 0 ds_2)).bind fun t97=>(a0c tab p82.2 a0i t97).bind fun t98=>(a0a tab a0v t0 (nth 0 ds_2)).bind fun t99=>((a0p tab p82.2 a0i t99 t94).bind fun h'=>some ((.und:D),h')).bind fun p915_1=>(a0a tab a0v t0 t89).bind fun t100=>((a0p tab p915_1.2 a0i t100 t98).bind fun h'=>some ((.und:D),h')).bind fun p917_1=>(a0f tab .sub ty3 (nth 0 ds_2) (.int .i64 1)).bind fun t71=>some (.nrm,[t71,t69,t84],p917_1.2)))
  (some ((.ext 4),[nth 0 ds_2,t69,nth 2 ds_2],h_3))
noncomputable def a6f (t0 t2 t3:D) (ds_3:List D) (h_4:Hp):Option Out :=
 (a0f tab .lss ty3 (nth 0 ds_3) t2).bind fun t109=>dIf t109
  ((a0a tab a0v t0 (nth 0 ds_3)).bind fun t115=>(a0c tab h_4 a0i t115).bind fun t116=>(a0f tab .sub ty3 (nth 0 ds_3) (.int .i64 1)).bind fun t119=>(a0a tab a0v t0 t119).bind fun t120=>(a0c tab h_4 a0i t120).bind fun t121=>(a1B R t3 [t116,t121] h_4).bind fun p122=>(a0f tab .lss ty3 p122.1 (.int .i64 0)).bind fun t123=>(dUn .not t123).bind fun t124=>dIf t124
  (some ((.ext 6),[nth 0 ds_3,t109,t124],p122.2))
  ((a0f tab .sub ty3 (nth 0 ds_3) (.int .i64 1)).bind fun t129=>(a0f tab .sub ty3 (nth 0 ds_3) (.int .i64 1)).bind fun t132=>(a0a tab a0v t0 t132).bind fun t133=>(a0c tab p122.2 a0i t133).bind fun t134=>(a0a tab a0v t0 (nth 0 ds_3)).bind fun t137=>(a0c tab p122.2 a0i t137).bind fun t138=>(a0a tab a0v t0 (nth 0 ds_3)).bind fun t139=>((a0p tab p122.2 a0i t139 t134).bind fun h'=>some ((.und:D),h')).bind fun p915_2=>(a0a tab a0v t0 t129).bind fun t140=>((a0p tab p915_2.2 a0i t140 t138).bind fun h'=>some ((.und:D),h')).bind fun p917_2=>(a0f tab .add ty3 (nth 0 ds_3) (.int .i64 1)).bind fun t111=>some (.nrm,[t111,t109,t124],p917_2.2)))
  (some ((.ext 6),[nth 0 ds_3,t109,nth 2 ds_3],h_4))
noncomputable def a8U (t0 t1 t2 t3:D) (ds:List D) (h_1:Hp):Option Out :=
 (a0f tab .lss ty3 (nth 2 ds) (.int .i64 5)).bind fun t16=>dIf t16
  (((a0z (a6d t0 t2 t3) [nth 1 ds,nth 6 ds] h_1).bind fun r_1=>some ((a0w 2 r_1.1),[nth 0 r_1.2.1,nth 1 r_1.2.1],r_1.2.2)).bind fun r_2=>a0y r_2.1 ((a0f tab .eql ty3 (nth 0 r_2.2.1) t2).bind fun t41=>dIf t41
  (some (.ret,[.bool true,nth 0 r_2.2.1,nth 2 ds,nth 3 ds,nth 4 ds,t16,nth 1 r_2.2.1,t41,nth 8 ds,nth 9 ds,nth 10 ds,nth 11 ds,nth 12 ds,nth 13 ds,nth 14 ds],r_2.2.2))
  ((a0f tab .sub ty3 t2 t1).bind fun t44=>(a0f tab .lss ty3 t44 (.int .i64 50)).bind fun t45=>dIf t45
  (some (.ret,[.bool false,nth 0 r_2.2.1,nth 2 ds,nth 3 ds,nth 4 ds,t16,nth 1 r_2.2.1,t41,t45,nth 9 ds,nth 10 ds,nth 11 ds,nth 12 ds,nth 13 ds,nth 14 ds],r_2.2.2))
  ((a0f tab .sub ty3 (nth 0 r_2.2.1) (.int .i64 1)).bind fun t50=>(a0f tab .sub ty3 (nth 0 r_2.2.1) (.int .i64 1)).bind fun t53=>(a0a tab a0v t0 t53).bind fun t54=>(a0c tab r_2.2.2 a0i t54).bind fun t55=>(a0a tab a0v t0 (nth 0 r_2.2.1)).bind fun t58=>(a0c tab r_2.2.2 a0i t58).bind fun t59=>(a0a tab a0v t0 (nth 0 r_2.2.1)).bind fun t60=>((a0p tab r_2.2.2 a0i t60 t55).bind fun h'=>some ((.und:D),h')).bind fun p915=>(a0a tab a0v t0 t50).bind fun t61=>((a0p tab p915.2 a0i t61 t59).bind fun h'=>some ((.und:D),h')).bind fun p917=>(a0f tab .sub ty3 (nth 0 r_2.2.1) t1).bind fun t64=>(a0f tab .geq ty3 t64 (.int .i64 2)).bind fun t65=>(dIf t65
  ((a0f tab .sub ty3 (nth 0 r_2.2.1) (.int .i64 1)).bind fun t67=>((a0z (a6e t0 t3) [t67,nth 10 ds,nth 11 ds] p917.2).bind fun r_3=>some ((a0w 4 r_3.1),[nth 0 r_3.2.1,nth 1 r_3.2.1,nth 2 r_3.2.1],r_3.2.2)).bind fun r_4=>some (r_4.1,[nth 0 r_4.2.1,nth 1 r_4.2.1,nth 2 r_4.2.1],r_4.2.2))
  (some (.nrm,[nth 3 ds,nth 10 ds,nth 11 ds],p917.2))).bind fun r_5=>a0y r_5.1 ((a0f tab .sub ty3 t2 (nth 0 r_2.2.1)).bind fun t103=>(a0f tab .geq ty3 t103 (.int .i64 2)).bind fun t104=>(dIf t104
  ((a0f tab .add ty3 (nth 0 r_2.2.1) (.int .i64 1)).bind fun t106=>((a0z (a6f t0 t2 t3) [t106,nth 13 ds,nth 14 ds] r_5.2.2).bind fun r_6=>some ((a0w 6 r_6.1),[nth 0 r_6.2.1,nth 1 r_6.2.1,nth 2 r_6.2.1],r_6.2.2)).bind fun r_7=>some (r_7.1,[nth 0 r_7.2.1,nth 1 r_7.2.1,nth 2 r_7.2.1],r_7.2.2))
  (some (.nrm,[nth 4 ds,nth 13 ds,nth 14 ds],r_5.2.2))).bind fun r_8=>a0y (a0w 1 r_8.1) ((a0f tab .add ty3 (nth 2 ds) (.int .i64 1)).bind fun t18=>some (.nrm,[nth 0 ds,nth 0 r_2.2.1,t18,nth 0 r_5.2.1,nth 0 r_8.2.1,t16,nth 1 r_2.2.1,t41,t45,t65,nth 1 r_5.2.1,nth 2 r_5.2.1,t104,nth 1 r_8.2.1,nth 2 r_8.2.1],r_8.2.2)) fun x_2=>some (x_2,[nth 0 ds,nth 0 r_2.2.1,nth 2 ds,nth 0 r_5.2.1,nth 0 r_8.2.1,t16,nth 1 r_2.2.1,t41,t45,t65,nth 1 r_5.2.1,nth 2 r_5.2.1,t104,nth 1 r_8.2.1,nth 2 r_8.2.1],r_8.2.2)) fun x_1=>a0y (a0w 1 x_1) ((a0f tab .add ty3 (nth 2 ds) (.int .i64 1)).bind fun t18_1=>some (.nrm,[nth 0 ds,nth 0 r_2.2.1,t18_1,nth 0 r_5.2.1,nth 4 ds,t16,nth 1 r_2.2.1,t41,t45,t65,nth 1 r_5.2.1,nth 2 r_5.2.1,nth 12 ds,nth 13 ds,nth 14 ds],r_5.2.2)) fun x_3=>some (x_3,[nth 0 ds,nth 0 r_2.2.1,nth 2 ds,nth 0 r_5.2.1,nth 4 ds,t16,nth 1 r_2.2.1,t41,t45,t65,nth 1 r_5.2.1,nth 2 r_5.2.1,nth 12 ds,nth 13 ds,nth 14 ds],r_5.2.2)))) fun x=>a0y (a0w 1 x) ((a0f tab .add ty3 (nth 2 ds) (.int .i64 1)).bind fun t18_2=>some (.nrm,[nth 0 ds,nth 0 r_2.2.1,t18_2,nth 3 ds,nth 4 ds,t16,nth 1 r_2.2.1,nth 7 ds,nth 8 ds,nth 9 ds,nth 10 ds,nth 11 ds,nth 12 ds,nth 13 ds,nth 14 ds],r_2.2.2)) fun x_4=>some (x_4,[nth 0 ds,nth 0 r_2.2.1,nth 2 ds,nth 3 ds,nth 4 ds,t16,nth 1 r_2.2.1,nth 7 ds,nth 8 ds,nth 9 ds,nth 10 ds,nth 11 ds,nth 12 ds,nth 13 ds,nth 14 ds],r_2.2.2))
  (some ((.ext 0),[nth 0 ds,nth 1 ds,nth 2 ds,nth 3 ds,nth 4 ds,t16,nth 6 ds,nth 7 ds,nth 8 ds,nth 9 ds,nth 10 ds,nth 11 ds,nth 12 ds,nth 13 ds,nth 14 ds],h_1))
noncomputable def b8z (t0 t1 t2 t3:D) (h:Hp):Option (D × Hp) :=
 (a0f tab .add ty3 t1 (.int .i64 1)).bind fun t14=>((a0z (a8U t0 t1 t2 t3) [.bool false,t14,.int .i64 0,.any,.any,.any,.any,.any,.any,.any,.any,.any,.any,.any,.any] h).bind fun r=>some ((a0w 0 r.1),[nth 0 r.2.1,nth 1 r.2.1,nth 2 r.2.1,nth 3 r.2.1,nth 4 r.2.1,nth 5 r.2.1,nth 6 r.2.1,nth 7 r.2.1,nth 8 r.2.1,nth 9 r.2.1,nth 10 r.2.1,nth 11 r.2.1,nth 12 r.2.1,nth 13 r.2.1,nth 14 r.2.1],r.2.2)).bind fun r_9=>a0y r_9.1 (some (a0m [.bool false],r_9.2.2)) fun x_5=>a0M x_5 (some (a0m [nth 0 r_9.2.1],r_9.2.2))
theorem c2I (t0 t1 t2 t3:D) (h:Hp):R b1H [t0,t1,t2,t3] h=b8z t0 t1 t2 t3 h :=
 er i56 (by kernel_rfl) (by kernel_rfl)
noncomputable def b3w (t0 t1 t4:D) (ds:List D) (ds_1:List D) (h_2:Hp):Option Out :=
 (a0f tab .leq ty3 (nth 0 ds_1) (nth 1 ds)).bind fun t33=>(gd t33 true (some t4)).bind fun t35=>(gd t33 true (some t0)).bind fun t36=>(gd t33 true (some t1)).bind fun t37=>(gd t33 true (a0a tab a0v t36 t37)).bind fun t38=>(gd t33 true (a0c tab h_2 a0i t38)).bind fun t39=>(gd t33 true (some t0)).bind fun t40=>(gd t33 true (some (nth 0 ds_1))).bind fun t41=>(gd t33 true (a0a tab a0v t40 t41)).bind fun t42=>(gd t33 true (a0c tab h_2 a0i t42)).bind fun t43=>(gdW t33 true h_2 (a1B R t35 [t39,t43] h_2)).bind fun p44=>(gd t33 true (a0f tab .lss ty3 p44.1 (.int .i64 0))).bind fun t45=>(gd t33 true (dUn .not t45)).bind fun t46=>(a0K t33 t46 (.bool false)).bind fun t47=>dIf t47
  ((a0f tab .add ty3 (nth 0 ds_1) (.int .i64 1)).bind fun t49=>some (.nrm,[t49,t47],p44.2))
  (some ((.ext 2),[nth 0 ds_1,t47],p44.2))
noncomputable def b3x (t0 t1 t4:D) (r_2:Out) (ds_2:List D) (h_3:Hp):Option Out :=
 (a0f tab .leq ty3 (nth 0 r_2.2.1) (nth 0 ds_2)).bind fun t52=>(gd t52 true (some t4)).bind fun t54=>(gd t52 true (some t0)).bind fun t55=>(gd t52 true (some t1)).bind fun t56=>(gd t52 true (a0a tab a0v t55 t56)).bind fun t57=>(gd t52 true (a0c tab h_3 a0i t57)).bind fun t58=>(gd t52 true (some t0)).bind fun t59=>(gd t52 true (some (nth 0 ds_2))).bind fun t60=>(gd t52 true (a0a tab a0v t59 t60)).bind fun t61=>(gd t52 true (a0c tab h_3 a0i t61)).bind fun t62=>(gdW t52 true h_3 (a1B R t54 [t58,t62] h_3)).bind fun p63=>(gd t52 true (a0f tab .lss ty3 p63.1 (.int .i64 0))).bind fun t64=>(a0K t52 t64 (.bool false)).bind fun t65=>dIf t65
  ((a0f tab .sub ty3 (nth 0 ds_2) (.int .i64 1)).bind fun t67=>some (.nrm,[t67,t65],p63.2))
  (some ((.ext 4),[nth 0 ds_2,t65],p63.2))
noncomputable def b3v (t0 t1 t4:D) (ds:List D) (h_1:Hp):Option Out :=
 ((a0z (b3w t0 t1 t4 ds) [nth 0 ds,nth 2 ds] h_1).bind fun r_1=>some ((a0w 2 r_1.1),[nth 0 r_1.2.1,nth 1 r_1.2.1],r_1.2.2)).bind fun r_2=>a0y r_2.1 (((a0z (b3x t0 t1 t4 r_2) [nth 1 ds,nth 3 ds] r_2.2.2).bind fun r_3=>some ((a0w 4 r_3.1),[nth 0 r_3.2.1,nth 1 r_3.2.1],r_3.2.2)).bind fun r_4=>a0y r_4.1 ((a0f tab .gtr ty3 (nth 0 r_2.2.1) (nth 0 r_4.2.1)).bind fun t70=>dIf t70
  (some ((.ext 0),[nth 0 r_2.2.1,nth 0 r_4.2.1,nth 1 r_2.2.1,nth 1 r_4.2.1,t70],r_4.2.2))
  ((a0a tab a0v t0 (nth 0 r_4.2.1)).bind fun t77=>(a0c tab r_4.2.2 a0i t77).bind fun t78=>(a0a tab a0v t0 (nth 0 r_2.2.1)).bind fun t81=>(a0c tab r_4.2.2 a0i t81).bind fun t82=>(a0a tab a0v t0 (nth 0 r_2.2.1)).bind fun t83=>((a0p tab r_4.2.2 a0i t83 t78).bind fun h'=>some ((.und:D),h')).bind fun p913_1=>(a0a tab a0v t0 (nth 0 r_4.2.1)).bind fun t84=>((a0p tab p913_1.2 a0i t84 t82).bind fun h'=>some ((.und:D),h')).bind fun p915_1=>(a0f tab .add ty3 (nth 0 r_2.2.1) (.int .i64 1)).bind fun t86=>(a0f tab .sub ty3 (nth 0 r_4.2.1) (.int .i64 1)).bind fun t88=>some (.nrm,[t86,t88,nth 1 r_2.2.1,nth 1 r_4.2.1,t70],p915_1.2))) fun x_1=>some ((a0w 1 x_1),[nth 0 r_2.2.1,nth 0 r_4.2.1,nth 1 r_2.2.1,nth 1 r_4.2.1,nth 4 ds],r_4.2.2)) fun x=>some ((a0w 1 x),[nth 0 r_2.2.1,nth 1 ds,nth 1 r_2.2.1,nth 3 ds,nth 4 ds],r_2.2.2)
noncomputable def c1T (t0 t1 t2 t3 t4:D) (h:Hp):Option (D × Hp) :=
 (a0a tab a0v t0 t3).bind fun t19=>(a0c tab h a0i t19).bind fun t20=>(a0a tab a0v t0 t1).bind fun t23=>(a0c tab h a0i t23).bind fun t24=>(a0a tab a0v t0 t1).bind fun t25=>((a0p tab h a0i t25 t20).bind fun h'=>some ((.und:D),h')).bind fun p913=>(a0a tab a0v t0 t3).bind fun t26=>((a0p tab p913.2 a0i t26 t24).bind fun h'=>some ((.und:D),h')).bind fun p915=>(a0f tab .add ty3 t1 (.int .i64 1)).bind fun t28=>(a0f tab .sub ty3 t2 (.int .i64 1)).bind fun t30=>((a0z (b3v t0 t1 t4) [t28,t30,.any,.any,.any] p915.2).bind fun r=>some ((a0w 0 r.1),[nth 0 r.2.1,nth 1 r.2.1,nth 2 r.2.1,nth 3 r.2.1,nth 4 r.2.1],r.2.2)).bind fun r_5=>a0y r_5.1 (some (a0m [nth 0 r_5.2.1],r_5.2.2)) fun x_2=>a0M x_2 (some (a0m [.int .i64 0],r_5.2.2))
theorem c5T (t0 t1 t2 t3 t4:D) (h:Hp):R b5r [t0,t1,t2,t3,t4] h=c1T t0 t1 t2 t3 t4 h :=
 er i57 (by kernel_rfl) (by kernel_rfl)
noncomputable def a6g (t0 t1 t4 t13m:D) (ds:List D) (h_1:Hp):Option Out :=
 (a0f tab .leq ty3 (nth 0 ds) t13m).bind fun t34=>(gd t34 true (some t4)).bind fun t36=>(gd t34 true (some t0)).bind fun t37=>(gd t34 true (some (nth 0 ds))).bind fun t38=>(gd t34 true (a0a tab a0v t37 t38)).bind fun t39=>(gd t34 true (a0c tab h_1 a0i t39)).bind fun t40=>(gd t34 true (some t0)).bind fun t41=>(gd t34 true (some t1)).bind fun t42=>(gd t34 true (a0a tab a0v t41 t42)).bind fun t43=>(gd t34 true (a0c tab h_1 a0i t43)).bind fun t44=>(gdW t34 true h_1 (a1B R t36 [t40,t44] h_1)).bind fun p45=>(gd t34 true (a0f tab .lss ty3 p45.1 (.int .i64 0))).bind fun t46=>(a0K t34 t46 (.bool false)).bind fun t47=>dIf t47
  ((a0f tab .add ty3 (nth 0 ds) (.int .i64 1)).bind fun t49=>some (.nrm,[t49,t47],p45.2))
  (some ((.ext 0),[nth 0 ds,t47],p45.2))
noncomputable def a6h (t0 t1 t4:D) (r_1:Out) (ds_1:List D) (h_2:Hp):Option Out :=
 (a0f tab .leq ty3 (nth 0 r_1.2.1) (nth 0 ds_1)).bind fun t52=>(gd t52 true (some t4)).bind fun t54=>(gd t52 true (some t0)).bind fun t55=>(gd t52 true (some (nth 0 ds_1))).bind fun t56=>(gd t52 true (a0a tab a0v t55 t56)).bind fun t57=>(gd t52 true (a0c tab h_2 a0i t57)).bind fun t58=>(gd t52 true (some t0)).bind fun t59=>(gd t52 true (some t1)).bind fun t60=>(gd t52 true (a0a tab a0v t59 t60)).bind fun t61=>(gd t52 true (a0c tab h_2 a0i t61)).bind fun t62=>(gdW t52 true h_2 (a1B R t54 [t58,t62] h_2)).bind fun p63=>(gd t52 true (a0f tab .lss ty3 p63.1 (.int .i64 0))).bind fun t64=>(gd t52 true (dUn .not t64)).bind fun t65=>(a0K t52 t65 (.bool false)).bind fun t66=>dIf t66
  ((a0f tab .sub ty3 (nth 0 ds_1) (.int .i64 1)).bind fun t68=>some (.nrm,[t68,t66],p63.2))
  (some ((.ext 2),[nth 0 ds_1,t66],p63.2))
noncomputable def a6i (t0 t1 t4:D) (ds_2:List D) (ds_3:List D) (h_4:Hp):Option Out :=
 (a0f tab .leq ty3 (nth 0 ds_3) (nth 1 ds_2)).bind fun t107=>(gd t107 true (some t4)).bind fun t109=>(gd t107 true (some t0)).bind fun t110=>(gd t107 true (some (nth 0 ds_3))).bind fun t111=>(gd t107 true (a0a tab a0v t110 t111)).bind fun t112=>(gd t107 true (a0c tab h_4 a0i t112)).bind fun t113=>(gd t107 true (some t0)).bind fun t114=>(gd t107 true (some t1)).bind fun t115=>(gd t107 true (a0a tab a0v t114 t115)).bind fun t116=>(gd t107 true (a0c tab h_4 a0i t116)).bind fun t117=>(gdW t107 true h_4 (a1B R t109 [t113,t117] h_4)).bind fun p118=>(gd t107 true (a0f tab .lss ty3 p118.1 (.int .i64 0))).bind fun t119=>(a0K t107 t119 (.bool false)).bind fun t120=>dIf t120
  ((a0f tab .add ty3 (nth 0 ds_3) (.int .i64 1)).bind fun t122=>some (.nrm,[t122,t120],p118.2))
  (some ((.ext 6),[nth 0 ds_3,t120],p118.2))
noncomputable def a6j (t0 t1 t4:D) (r_6:Out) (ds_4:List D) (h_5:Hp):Option Out :=
 (a0f tab .leq ty3 (nth 0 r_6.2.1) (nth 0 ds_4)).bind fun t125=>(gd t125 true (some t4)).bind fun t127=>(gd t125 true (some t0)).bind fun t128=>(gd t125 true (some (nth 0 ds_4))).bind fun t129=>(gd t125 true (a0a tab a0v t128 t129)).bind fun t130=>(gd t125 true (a0c tab h_5 a0i t130)).bind fun t131=>(gd t125 true (some t0)).bind fun t132=>(gd t125 true (some t1)).bind fun t133=>(gd t125 true (a0a tab a0v t132 t133)).bind fun t134=>(gd t125 true (a0c tab h_5 a0i t134)).bind fun t135=>(gdW t125 true h_5 (a1B R t127 [t131,t135] h_5)).bind fun p136=>(gd t125 true (a0f tab .lss ty3 p136.1 (.int .i64 0))).bind fun t137=>(gd t125 true (dUn .not t137)).bind fun t138=>(a0K t125 t138 (.bool false)).bind fun t139=>dIf t139
  ((a0f tab .sub ty3 (nth 0 ds_4) (.int .i64 1)).bind fun t141=>some (.nrm,[t141,t139],p136.2))
  (some ((.ext 8),[nth 0 ds_4,t139],p136.2))
noncomputable def a8V (t0 t1 t4:D) (ds_2:List D) (h_3:Hp):Option Out :=
 ((a0z (a6i t0 t1 t4 ds_2) [nth 0 ds_2,nth 2 ds_2] h_3).bind fun r_5=>some ((a0w 6 r_5.1),[nth 0 r_5.2.1,nth 1 r_5.2.1],r_5.2.2)).bind fun r_6=>a0y r_6.1 (((a0z (a6j t0 t1 t4 r_6) [nth 1 ds_2,nth 3 ds_2] r_6.2.2).bind fun r_7=>some ((a0w 8 r_7.1),[nth 0 r_7.2.1,nth 1 r_7.2.1],r_7.2.2)).bind fun r_8=>a0y r_8.1 ((a0f tab .gtr ty3 (nth 0 r_6.2.1) (nth 0 r_8.2.1)).bind fun t144=>dIf t144
  (some ((.ext 4),[nth 0 r_6.2.1,nth 0 r_8.2.1,nth 1 r_6.2.1,nth 1 r_8.2.1,t144],r_8.2.2))
  ((a0a tab a0v t0 (nth 0 r_8.2.1)).bind fun t151=>(a0c tab r_8.2.2 a0i t151).bind fun t152=>(a0a tab a0v t0 (nth 0 r_6.2.1)).bind fun t155=>(a0c tab r_8.2.2 a0i t155).bind fun t156=>(a0a tab a0v t0 (nth 0 r_6.2.1)).bind fun t157=>((a0p tab r_8.2.2 a0i t157 t152).bind fun h'=>some ((.und:D),h')).bind fun p913_3=>(a0a tab a0v t0 (nth 0 r_8.2.1)).bind fun t158=>((a0p tab p913_3.2 a0i t158 t156).bind fun h'=>some ((.und:D),h')).bind fun p915_3=>(a0f tab .add ty3 (nth 0 r_6.2.1) (.int .i64 1)).bind fun t160=>(a0f tab .sub ty3 (nth 0 r_8.2.1) (.int .i64 1)).bind fun t162=>some (.nrm,[t160,t162,nth 1 r_6.2.1,nth 1 r_8.2.1,t144],p915_3.2))) fun x_3=>some ((a0w 5 x_3),[nth 0 r_6.2.1,nth 0 r_8.2.1,nth 1 r_6.2.1,nth 1 r_8.2.1,nth 4 ds_2],r_8.2.2)) fun x_2=>some ((a0w 5 x_2),[nth 0 r_6.2.1,nth 1 ds_2,nth 1 r_6.2.1,nth 3 ds_2,nth 4 ds_2],r_6.2.2)
noncomputable def b8A (t0 t1 t2 t3 t4:D) (h:Hp):Option (D × Hp) :=
 (a0a tab a0v t0 t3).bind fun t20=>(a0c tab h a0i t20).bind fun t21=>(a0a tab a0v t0 t1).bind fun t24=>(a0c tab h a0i t24).bind fun t25=>(a0a tab a0v t0 t1).bind fun t26=>((a0p tab h a0i t26 t21).bind fun h'=>some ((.und:D),h')).bind fun p913=>(a0a tab a0v t0 t3).bind fun t27=>((a0p tab p913.2 a0i t27 t25).bind fun h'=>some ((.und:D),h')).bind fun p915=>(a0f tab .add ty3 t1 (.int .i64 1)).bind fun t29=>(a0f tab .sub ty3 t2 (.int .i64 1)).bind fun t31=>((a0z (a6g t0 t1 t4 t31) [t29,.any] p915.2).bind fun r=>some ((a0w 0 r.1),[nth 0 r.2.1,nth 1 r.2.1],r.2.2)).bind fun r_1=>a0y r_1.1 (((a0z (a6h t0 t1 t4 r_1) [t31,.any] r_1.2.2).bind fun r_2=>some ((a0w 2 r_2.1),[nth 0 r_2.2.1,nth 1 r_2.2.1],r_2.2.2)).bind fun r_3=>a0y r_3.1 ((a0f tab .gtr ty3 (nth 0 r_1.2.1) (nth 0 r_3.2.1)).bind fun t71=>dIf t71
  ((a0a tab a0v t0 t1).bind fun t78=>(a0c tab r_3.2.2 a0i t78).bind fun t79=>(a0a tab a0v t0 (nth 0 r_3.2.1)).bind fun t82=>(a0c tab r_3.2.2 a0i t82).bind fun t83=>(a0a tab a0v t0 (nth 0 r_3.2.1)).bind fun t84=>((a0p tab r_3.2.2 a0i t84 t79).bind fun h'=>some ((.und:D),h')).bind fun p913_1=>(a0a tab a0v t0 t1).bind fun t85=>((a0p tab p913_1.2 a0i t85 t83).bind fun h'=>some ((.und:D),h')).bind fun p915_1=>some (a0m [nth 0 r_3.2.1,.bool true],p915_1.2))
  ((a0a tab a0v t0 (nth 0 r_3.2.1)).bind fun t93=>(a0c tab r_3.2.2 a0i t93).bind fun t94=>(a0a tab a0v t0 (nth 0 r_1.2.1)).bind fun t97=>(a0c tab r_3.2.2 a0i t97).bind fun t98=>(a0a tab a0v t0 (nth 0 r_1.2.1)).bind fun t99=>((a0p tab r_3.2.2 a0i t99 t94).bind fun h'=>some ((.und:D),h')).bind fun p913_2=>(a0a tab a0v t0 (nth 0 r_3.2.1)).bind fun t100=>((a0p tab p913_2.2 a0i t100 t98).bind fun h'=>some ((.und:D),h')).bind fun p915_2=>(a0f tab .add ty3 (nth 0 r_1.2.1) (.int .i64 1)).bind fun t102=>(a0f tab .sub ty3 (nth 0 r_3.2.1) (.int .i64 1)).bind fun t104=>((a0z (a8V t0 t1 t4) [t102,t104,.any,.any,.any] p915_2.2).bind fun r_4=>some ((a0w 4 r_4.1),[nth 0 r_4.2.1,nth 1 r_4.2.1,nth 2 r_4.2.1,nth 3 r_4.2.1,nth 4 r_4.2.1],r_4.2.2)).bind fun r_9=>a0y r_9.1 ((a0a tab a0v t0 t1).bind fun t169=>(a0c tab r_9.2.2 a0i t169).bind fun t170=>(a0a tab a0v t0 (nth 1 r_9.2.1)).bind fun t173=>(a0c tab r_9.2.2 a0i t173).bind fun t174=>(a0a tab a0v t0 (nth 1 r_9.2.1)).bind fun t175=>((a0p tab r_9.2.2 a0i t175 t170).bind fun h'=>some ((.und:D),h')).bind fun p913_4=>(a0a tab a0v t0 t1).bind fun t176=>((a0p tab p913_4.2 a0i t176 t174).bind fun h'=>some ((.und:D),h')).bind fun p915_4=>some (a0m [nth 1 r_9.2.1,.bool false],p915_4.2)) fun x_4=>a0M x_4 (some (a0m [.int .i64 0,.bool false],r_9.2.2)))) fun x_1=>a0M x_1 (some (a0m [.int .i64 0,.bool false],r_3.2.2))) fun x=>a0M x (some (a0m [.int .i64 0,.bool false],r_1.2.2))
theorem c2J (t0 t1 t2 t3 t4:D) (h:Hp):R b1I [t0,t1,t2,t3,t4] h=b8A t0 t1 t2 t3 t4 h :=
 er i58 (by kernel_rfl) (by kernel_rfl)
noncomputable def c1U (t0:D) (h:Hp):Option (D × Hp) :=
 (a0f tab .geq b8e t0 (.int .u32 65536)).bind fun t4=>(dIf t4
  ((a0f tab .shr b8e t0 (.int .u64 16)).bind fun t6=>some (.nrm,[t6,.int .i64 16],h))
  (some (.nrm,[t0,.int .i64 0],h))).bind fun r=>a0y r.1 ((a0f tab .geq b8e (nth 0 r.2.1) (.int .u32 256)).bind fun t8=>(dIf t8
  ((a0f tab .shr b8e (nth 0 r.2.1) (.int .u64 8)).bind fun t10=>(a0f tab .add ty3 (nth 1 r.2.1) (.int .i64 8)).bind fun t12=>some (.nrm,[t10,t12],r.2.2))
  (some (.nrm,[nth 0 r.2.1,nth 1 r.2.1],r.2.2))).bind fun r_1=>a0y r_1.1 ((a2e tab b8e ty5 (nth 0 r_1.2.1)).bind fun t15=>(a2N tab ty9 (.str [0,1,2,2,3,3,3,3,4,4,4,4,4,4,4,4,5,5,5,5,5,5,5,5,5,5,5,5,5,5,5,5,6,6,6,6,6,6,6,6,6,6,6,6,6,6,6,6,6,6,6,6,6,6,6,6,6,6,6,6,6,6,6,6,7,7,7,7,7,7,7,7,7,7,7,7,7,7,7,7,7,7,7,7,7,7,7,7,7,7,7,7,7,7,7,7,7,7,7,7,7,7,7,7,7,7,7,7,7,7,7,7,7,7,7,7,7,7,7,7,7,7,7,7,7,7,7,7,8,8,8,8,8,8,8,8,8,8,8,8,8,8,8,8,8,8,8,8,8,8,8,8,8,8,8,8,8,8,8,8,8,8,8,8,8,8,8,8,8,8,8,8,8,8,8,8,8,8,8,8,8,8,8,8,8,8,8,8,8,8,8,8,8,8,8,8,8,8,8,8,8,8,8,8,8,8,8,8,8,8,8,8,8,8,8,8,8,8,8,8,8,8,8,8,8,8,8,8,8,8,8,8,8,8,8,8,8,8,8,8,8,8,8,8,8,8,8,8,8,8,8,8,8,8,8,8]) t15).bind fun t16=>(a2e tab ty5 ty3 t16).bind fun t17=>(a0f tab .add ty3 (nth 1 r_1.2.1) t17).bind fun t18=>some (a0m [t18],r_1.2.2)) fun x_1=>a0M x_1 (some (a0m [nth 1 r_1.2.1],r_1.2.2))) fun x=>a0M x (some (a0m [nth 1 r.2.1],r.2.2))
theorem c5U (t0:D) (h:Hp):R b5s [t0] h=c1U t0 h :=
 er i59 (by kernel_rfl) (by kernel_rfl)
noncomputable def b5Y (t0:D) (h:Hp):Option (D × Hp) :=
 (a0f tab .geq a2m t0 (.int .u64 4294967296)).bind fun t4=>(dIf t4
  ((a0f tab .shr a2m t0 (.int .u64 32)).bind fun t6=>some (.nrm,[t6,.int .i64 32],h))
  (some (.nrm,[t0,.int .i64 0],h))).bind fun r=>a0y r.1 ((a0f tab .geq a2m (nth 0 r.2.1) (.int .u64 65536)).bind fun t8=>(dIf t8
  ((a0f tab .shr a2m (nth 0 r.2.1) (.int .u64 16)).bind fun t10=>(a0f tab .add ty3 (nth 1 r.2.1) (.int .i64 16)).bind fun t12=>some (.nrm,[t10,t12],r.2.2))
  (some (.nrm,[nth 0 r.2.1,nth 1 r.2.1],r.2.2))).bind fun r_1=>a0y r_1.1 ((a0f tab .geq a2m (nth 0 r_1.2.1) (.int .u64 256)).bind fun t14=>(dIf t14
  ((a0f tab .shr a2m (nth 0 r_1.2.1) (.int .u64 8)).bind fun t16=>(a0f tab .add ty3 (nth 1 r_1.2.1) (.int .i64 8)).bind fun t18=>some (.nrm,[t16,t18],r_1.2.2))
  (some (.nrm,[nth 0 r_1.2.1,nth 1 r_1.2.1],r_1.2.2))).bind fun r_2=>a0y r_2.1 ((a2e tab a2m ty5 (nth 0 r_2.2.1)).bind fun t21=>(a2N tab ty9 (.str [0,1,2,2,3,3,3,3,4,4,4,4,4,4,4,4,5,5,5,5,5,5,5,5,5,5,5,5,5,5,5,5,6,6,6,6,6,6,6,6,6,6,6,6,6,6,6,6,6,6,6,6,6,6,6,6,6,6,6,6,6,6,6,6,7,7,7,7,7,7,7,7,7,7,7,7,7,7,7,7,7,7,7,7,7,7,7,7,7,7,7,7,7,7,7,7,7,7,7,7,7,7,7,7,7,7,7,7,7,7,7,7,7,7,7,7,7,7,7,7,7,7,7,7,7,7,7,7,8,8,8,8,8,8,8,8,8,8,8,8,8,8,8,8,8,8,8,8,8,8,8,8,8,8,8,8,8,8,8,8,8,8,8,8,8,8,8,8,8,8,8,8,8,8,8,8,8,8,8,8,8,8,8,8,8,8,8,8,8,8,8,8,8,8,8,8,8,8,8,8,8,8,8,8,8,8,8,8,8,8,8,8,8,8,8,8,8,8,8,8,8,8,8,8,8,8,8,8,8,8,8,8,8,8,8,8,8,8,8,8,8,8,8,8,8,8,8,8,8,8,8,8,8,8,8,8]) t21).bind fun t22=>(a2e tab ty5 ty3 t22).bind fun t23=>(a0f tab .add ty3 (nth 1 r_2.2.1) t23).bind fun t24=>some (a0m [t24],r_2.2.2)) fun x_2=>a0M x_2 (some (a0m [nth 1 r_2.2.1],r_2.2.2))) fun x_1=>a0M x_1 (some (a0m [nth 1 r_1.2.1],r_1.2.2))) fun x=>a0M x (some (a0m [nth 1 r.2.1],r.2.2))
theorem b9v (t0:D) (h:Hp):R b1D [t0] h=b5Y t0 h :=
 er i60 (by kernel_rfl) (by kernel_rfl)
noncomputable def b5g (t0:D) (ds:List D) (h_1:Hp):Option Out :=
 (a0f tab .gtr ty3 (nth 1 ds) (.int .i64 0)).bind fun t10=>dIf t10
  ((a0J tab a1d 5 [0,1,2,3,4] [.str [32],.str [32],.str [44,32],.str [61],.str []]).bind fun t14=>(R a2f [t0,.int .i64 5] h_1).bind fun p16=>(a0a tab a1d t14 p16.1).bind fun t17=>(a0c tab p16.2 ty9 t17).bind fun t18=>(R b4l [t0] p16.2).bind fun p20=>(a0f tab .add ty9 t18 p20.1).bind fun t21=>(a0f tab .add ty9 (nth 0 ds) t21).bind fun t22=>chk (a0c tab p20.2 ty9 t17=some t18)
 ((a0f tab .sub ty3 (nth 1 ds) (.int .i64 1)).bind fun t12=>some (.nrm,[t22,t12,t10],p20.2)))
  (some ((.ext 0),[nth 0 ds,nth 1 ds,t10],h_1))
noncomputable def F96 (t0:D) (h:Hp):Option (D × Hp) :=
 (R b4l [t0] h).bind fun p6=>(R a2f [t0,.int .i64 4] p6.2).bind fun p8=>((a0z (b5g t0) [p6.1,p8.1,.any] p8.2).bind fun r=>some ((a0w 0 r.1),[nth 0 r.2.1,nth 1 r.2.1,nth 2 r.2.1],r.2.2)).bind fun r_1=>a0y r_1.1 (some (a0m [nth 0 r_1.2.1],r_1.2.2)) fun x=>a0M x (some (a0m [.str []],r_1.2.2))
theorem e96 (t0:D) (h:Hp):R c1I [t0] h=F96 t0 h :=
 er i61 (by kernel_rfl) (by kernel_rfl)
noncomputable def F35 (t0:D) (h:Hp):Option (D × Hp) :=
 (R a2f [t0,.int .i64 4] h).bind fun p4=>(a0f tab .eql ty3 p4.1 (.int .i64 0)).bind fun t6=>dIf t6
  ((R a2f [t0,.int .i64 40] p4.2).bind fun p8=>(a0f tab .mul ty3 p8.1 (.int .i64 86400000)).bind fun t9=>some (a0m [t9],p8.2))
  ((a0f tab .eql ty3 p4.1 (.int .i64 1)).bind fun t11=>dIf t11
  ((R a2f [t0,.int .i64 3] p4.2).bind fun p13=>(a0f tab .mul ty3 p13.1 (.int .i64 86400000)).bind fun t14=>(a0f tab .sub ty3 (.int .i64 253402300799999) t14).bind fun t15=>some (a0m [t15],p13.2))
  ((R a2f [t0,.int .i64 60] p4.2).bind fun p17=>(a0f tab .add ty3 (.int .i64 1000) p17.1).bind fun t18=>some (a0m [t18],p17.2)))
theorem e35 (t0:D) (h:Hp):R c1C [t0] h=F35 t0 h :=
 er i62 (by kernel_rfl) (by kernel_rfl)
noncomputable def F97 (t0:D) (h:Hp):Option (D × Hp) :=
 (a0J tab a3t 6 [0,1,2,3,4,5] [.int .i64 1,.int .i64 1,.int .i64 2,.int .i64 5,.int .i64 10,.int .i64 5040]).bind fun t3=>(R a2f [t0,.int .i64 6] h).bind fun p5=>(a0a tab a3t t3 p5.1).bind fun t6=>(a0c tab p5.2 ty3 t6).bind fun t7=>some (a0m [t7],p5.2)
theorem e97 (t0:D) (h:Hp):R c1J [t0] h=F97 t0 h :=
 er i63 (by kernel_rfl) (by kernel_rfl)
noncomputable def b5h (t0 t4m:D) (ds:List D) (h_1:Hp):Option Out :=
 (a0B tab a1d t4m).bind fun t9=>(a0f tab .lss ty3 (nth 1 ds) t9).bind fun t10=>dIf t10
  ((R a2f [t0,.int .i64 3] h_1).bind fun p14=>(a0f tab .eql ty3 p14.1 (.int .i64 1)).bind fun t15=>(dIf t15
  ((a0a tab a1d t4m (nth 1 ds)).bind fun t19=>(a0c tab p14.2 ty9 t19).bind fun t20=>(R c1B [t0] p14.2).bind fun p22=>(a0N tab a2s [0,1] [t20,p22.1]).bind fun t23=>(a0J tab a3F 1 [0] [t23]).bind fun t24=>(a0D tab p22.2 a3F a3F (nth 0 ds) t24).bind fun p25=>chk (a0c tab p22.2 ty9 t19=some t20)
 (some (.nrm,[p25.1],p25.2)))
  (some (.nrm,[nth 0 ds],p14.2))).bind fun r_1=>a0y (a0w 1 r_1.1) ((a0f tab .add ty3 (nth 1 ds) (.int .i64 1)).bind fun t12=>some (.nrm,[nth 0 r_1.2.1,t12,t10,t15],r_1.2.2)) fun x=>some (x,[nth 0 r_1.2.1,nth 1 ds,t10,t15],r_1.2.2))
  (some ((.ext 0),[nth 0 ds,nth 1 ds,t10,nth 3 ds],h_1))
noncomputable def F98 (t0:D) (h:Hp):Option (D × Hp) :=
 (a0J tab a1d 4 [0,1,2,3] [.str [99,111,100,101],.str [108,101,118,101,108],.str [109,115],.str [117,115,101,114]]).bind fun t6=>((a0z (b5h t0 t6) [.nils,.int .i64 0,.any,.any] h).bind fun r=>some ((a0w 0 r.1),[nth 0 r.2.1,nth 1 r.2.1,nth 2 r.2.1,nth 3 r.2.1],r.2.2)).bind fun r_2=>a0y r_2.1 (scope h r_2.2.2 (a0m [nth 0 r_2.2.1])) fun x_1=>a0M x_1 (scope h r_2.2.2 (a0m [.nils]))
theorem e98 (t0:D) (h:Hp):R b9N [t0] h=F98 t0 h :=
 er i64 (by kernel_rfl) (by kernel_rfl)
noncomputable def b9b (t0:D) (h:Hp):Option (D × Hp) :=
 (a0f tab .geq ty5 t0 (.int .u8 97)).bind fun t5=>(gd t5 true (some t0)).bind fun t7=>(gd t5 true (a0f tab .leq ty5 t7 (.int .u8 122))).bind fun t8=>(a0K t5 t8 (.bool false)).bind fun t9=>(gd t9 false (some t0)).bind fun t11=>(gd t9 false (a0f tab .geq ty5 t11 (.int .u8 48))).bind fun t12=>(gd t9 false (some t12)).bind fun t13=>(gd t13 true (some t0)).bind fun t14=>(gd t13 true (a0f tab .leq ty5 t14 (.int .u8 57))).bind fun t15=>(gd t9 false (a0K t13 t15 (.bool false))).bind fun t16=>(a0K t9 (.bool true) t16).bind fun t17=>(gd t17 false (some t0)).bind fun t19=>(gd t17 false (a0f tab .eql ty5 t19 (.int .u8 95))).bind fun t20=>(a0K t17 (.bool true) t20).bind fun t21=>dIf t21
  (some (a0m [t0],h))
  ((a0f tab .geq ty5 t0 (.int .u8 65)).bind fun t25=>(gd t25 true (some t0)).bind fun t27=>(gd t25 true (a0f tab .leq ty5 t27 (.int .u8 90))).bind fun t28=>(a0K t25 t28 (.bool false)).bind fun t29=>dIf t29
  ((a0f tab .add ty5 t0 (.int .u8 32)).bind fun t31=>some (a0m [t31],h))
  (some (a0m [.int .u8 0],h)))
theorem c3k (t0:D) (h:Hp):R b1Q [t0] h=b9b t0 h :=
 er i65 (by kernel_rfl) (by kernel_rfl)
noncomputable def b8k (t0:D) (h:Hp):Option (D × Hp) :=
 (a0B tab a1d t0).bind fun t8=>(a0f tab .lss ty3 t8 (.int .i64 2)).bind fun t9=>dIf t9
  ((a0D tab h a1d a1d (.nils) t0).bind fun p11=>scope h p11.2 (a0m [p11.1]))
  ((a0B tab a1d t0).bind fun t13=>(a0f tab .quo ty3 t13 (.int .i64 2)).bind fun t14=>(a0E tab a1d false true false [t0,t14]).bind fun t18=>(R a5E [t18] h).bind fun p19=>(a0E tab a1d true false false [t0,t14]).bind fun t22=>(R a5E [t22] p19.2).bind fun p23=>(R a9B [p19.1,p23.1] p23.2).bind fun p24=>(a0r 0 p24.1).bind fun t25=>(a0r 1 p24.1).bind fun t26=>(a0r 2 p24.1).bind fun t27=>scope h p24.2 (a0m [t25]))
theorem c2s (t0:D) (h:Hp):R a5E [t0] h=b8k t0 h :=
 er i66 (by kernel_rfl) (by kernel_rfl)
noncomputable def a9m (t0 t1:D) (ds:List D) (h_1:Hp):Option Out :=
 (a0B tab a1d t0).bind fun t18=>(a0f tab .lss ty3 (nth 0 ds) t18).bind fun t19=>(gd t19 true (some t0)).bind fun t21=>(gd t19 true (some (nth 0 ds))).bind fun t22=>(gd t19 true (a0a tab a1d t21 t22)).bind fun t23=>(gd t19 true (a0c tab h_1 ty9 t23)).bind fun t24=>(gd t19 true (some t1)).bind fun t25=>(gdW t19 true h_1 (R b1S [t24,t25] h_1)).bind fun p26=>(a0K t19 p26.1 (.bool false)).bind fun t27=>dIf t27
  ((a0f tab .add ty3 (nth 0 ds) (.int .i64 1)).bind fun t29=>some (.nrm,[t29,t27],p26.2))
  (some ((.ext 0),[nth 0 ds,t27],p26.2))
noncomputable def b9c (t0 t1:D) (h:Hp):Option (D × Hp) :=
 (R a7G [t0,t1] h).bind fun p12=>(a0r 0 p12.1).bind fun t13=>(a0r 1 p12.1).bind fun t14=>((a0z (a9m t0 t1) [t13,.any] p12.2).bind fun r=>some ((a0w 0 r.1),[nth 0 r.2.1,nth 1 r.2.1],r.2.2)).bind fun r_1=>a0y r_1.1 (some (a0m [t13,nth 0 r_1.2.1],r_1.2.2)) fun x=>a0M x (some (a0m [.int .i64 0,.int .i64 0],r_1.2.2))
theorem c3l (t0 t1:D) (h:Hp):R b1R [t0,t1] h=b9c t0 t1 h :=
 er i67 (by kernel_rfl) (by kernel_rfl)
noncomputable def a5V (ds:List D) (h_1:Hp):Option Out :=
 (a0f tab .rem a2m (nth 0 ds) (.int .u64 10)).bind fun t12=>(a0f tab .add a2m (.int .u64 48) t12).bind fun t13=>(a2e tab a2m ty5 t13).bind fun t14=>(a0J tab a3h 1 [0] [t14]).bind fun t15=>(a0D tab h_1 a3h a3h t15 (nth 1 ds)).bind fun p17=>(a0f tab .quo a2m (nth 0 ds) (.int .u64 10)).bind fun t19=>(a0f tab .eql a2m t19 (.int .u64 0)).bind fun t21=>dIf t21
  (some ((.ext 0),[t19,p17.1,t21],p17.2))
  (some (.nrm,[t19,p17.1,t21],p17.2))
noncomputable def b5W (t0:D) (h:Hp):Option (D × Hp) :=
 (a2e tab ty3 a2m t0).bind fun t6=>(a0f tab .lss ty3 t0 (.int .i64 0)).bind fun t8=>(dIf t8
  ((dUn .neg t6).bind fun t10=>some (.nrm,[t10],h))
  (some (.nrm,[t6],h))).bind fun r=>a0y r.1 (((a0z (a5V) [nth 0 r.2.1,.nils,.any] r.2.2).bind fun r_1=>some ((a0w 0 r_1.1),[nth 0 r_1.2.1,nth 1 r_1.2.1,nth 2 r_1.2.1],r_1.2.2)).bind fun r_2=>a0y r_2.1 ((a0f tab .lss ty3 t0 (.int .i64 0)).bind fun t23=>(dIf t23
  ((a0J tab a3h 1 [0] [.int .u8 45]).bind fun t24=>(a0D tab r_2.2.2 a3h a3h t24 (nth 1 r_2.2.1)).bind fun p26=>some (.nrm,[p26.1],p26.2))
  (some (.nrm,[nth 1 r_2.2.1],r_2.2.2))).bind fun r_3=>a0y r_3.1 ((a3u r_3.2.2 (nth 0 r_3.2.1)).bind fun t28=>scope h r_3.2.2 (a0m [t28])) fun x_2=>a0M x_2 (scope h r_3.2.2 (a0m [.str []]))) fun x_1=>a0M x_1 (scope h r_2.2.2 (a0m [.str []]))) fun x=>a0M x (scope h r.2.2 (a0m [.str []]))
theorem b9u (t0:D) (h:Hp):R a4m [t0] h=b5W t0 h :=
 er i68 (by kernel_rfl) (by kernel_rfl)
noncomputable def a7h (t0 t1:D) (ds:List D) (h_1:Hp):Option Out :=
 (a0B tab a3F t0).bind fun t9=>(a0f tab .lss ty3 (nth 2 ds) t9).bind fun t10=>dIf t10
  ((a0a tab a3F t0 (nth 2 ds)).bind fun t15=>(a0b tab a2s 0 t15).bind fun t16=>(a0c tab h_1 ty9 t16).bind fun t17=>(a0f tab .eql ty9 t17 t1).bind fun t19=>dIf t19
  ((a0a tab a3F t0 (nth 2 ds)).bind fun t22=>(a0b tab a2s 1 t22).bind fun t23=>(a0c tab h_1 ty9 t23).bind fun t24=>some (.ret,[t24,.bool true,nth 2 ds,t10,t19],h_1))
  ((a0f tab .add ty3 (nth 2 ds) (.int .i64 1)).bind fun t12=>some (.nrm,[nth 0 ds,nth 1 ds,t12,t10,t19],h_1)))
  (some ((.ext 0),[nth 0 ds,nth 1 ds,nth 2 ds,t10,nth 4 ds],h_1))
noncomputable def F76 (t0 t1:D) (h:Hp):Option (D × Hp) :=
 ((a0z (a7h t0 t1) [.str [],.bool false,.int .i64 0,.any,.any] h).bind fun r=>some ((a0w 0 r.1),[nth 0 r.2.1,nth 1 r.2.1,nth 2 r.2.1,nth 3 r.2.1,nth 4 r.2.1],r.2.2)).bind fun r_1=>a0y r_1.1 (some (a0m [.str [],.bool false],r_1.2.2)) fun x=>a0M x (some (a0m [nth 0 r_1.2.1,nth 1 r_1.2.1],r_1.2.2))
theorem e76 (t0 t1:D) (h:Hp):R c3z [t0,t1] h=F76 t0 t1 h :=
 er i69 (by kernel_rfl) (by kernel_rfl)
noncomputable def b8l (t0:D) (h:Hp):Option (D × Hp) :=
 (R a9C [t0] h).bind fun p5=>(a0r 0 p5.1).bind fun t6=>(a0r 1 p5.1).bind fun t7=>some (a0m [t6,t7],p5.2)
theorem c2t (t0:D) (h:Hp):R b1B [t0] h=b8l t0 h :=
 er i70 (by kernel_rfl) (by kernel_rfl)
noncomputable def a7g (t1 t8m t9:D) (ds:List D) (h_1:Hp):Option Out :=
 (a0f tab .lss ty3 (nth 3 ds) t9).bind fun t11=>dIf t11
  ((a0a tab a3F t8m (nth 3 ds)).bind fun t12=>(a0c tab h_1 a2s t12).bind fun t13=>(b0n 2 t13).bind fun t7=>(a0b tab a2s 0 t7).bind fun t14=>(a0c tab h_1 ty9 t14).bind fun t15=>(a0f tab .eql ty9 t15 t1).bind fun t17=>dIf t17
  ((a0b tab a2s 1 t7).bind fun t18=>(a0c tab h_1 ty9 t18).bind fun t19=>some (.ret,[t19,.bool true,t7,nth 3 ds,t11,t17],h_1))
  ((a0f tab .add ty3 (nth 3 ds) (.int .i64 1)).bind fun t20=>some (.nrm,[nth 0 ds,nth 1 ds,t7,t20,t11,t17],h_1)))
  (some ((.ext 0),[nth 0 ds,nth 1 ds,nth 2 ds,nth 3 ds,t11,nth 5 ds],h_1))
noncomputable def F70 (t0 t1:D) (h:Hp):Option (D × Hp) :=
 (a0B tab a3F t0).bind fun t9=>((a0z (a7g t1 t0 t9) [.str [],.bool false,.any,.int .i64 0,.any,.any] h).bind fun r=>some ((a0w 0 r.1),[nth 0 r.2.1,nth 1 r.2.1,nth 2 r.2.1,nth 3 r.2.1,nth 4 r.2.1,nth 5 r.2.1],r.2.2)).bind fun r_1=>a0y r_1.1 (some (a0m [.str [],.bool false],r_1.2.2)) fun x=>a0M x (some (a0m [nth 0 r_1.2.1,nth 1 r_1.2.1],r_1.2.2))
theorem e70 (t0 t1:D) (h:Hp):R c3y [t0,t1] h=F70 t0 t1 h :=
 er i78 (by kernel_rfl) (by kernel_rfl)
noncomputable def a6l (t0 t1 t3:D) (ds_1:List D) (h_2:Hp):Option Out :=
 (a0f tab .gtr ty3 (nth 0 ds_1) t1).bind fun t20=>(gd t20 true (some t3)).bind fun t22=>(gd t20 true (some t0)).bind fun t23=>(gd t20 true (some (nth 0 ds_1))).bind fun t24=>(gd t20 true (a0a tab a0u t23 t24)).bind fun t25=>(gd t20 true (a0c tab h_2 a0h t25)).bind fun t26=>(gd t20 true (some t0)).bind fun t27=>(gd t20 true (some (nth 0 ds_1))).bind fun t28=>(gd t20 true (a0f tab .sub ty3 t28 (.int .i64 1))).bind fun t29=>(gd t20 true (a0a tab a0u t27 t29)).bind fun t30=>(gd t20 true (a0c tab h_2 a0h t30)).bind fun t31=>(gdW t20 true h_2 (a1B R t22 [t26,t31] h_2)).bind fun p32=>(gd t20 true (a0f tab .lss ty3 p32.1 (.int .i64 0))).bind fun t33=>(a0K t20 t33 (.bool false)).bind fun t34=>dIf t34
  ((a0f tab .sub ty3 (nth 0 ds_1) (.int .i64 1)).bind fun t41=>(a0f tab .sub ty3 (nth 0 ds_1) (.int .i64 1)).bind fun t44=>(a0a tab a0u t0 t44).bind fun t45=>(a0c tab p32.2 a0h t45).bind fun t46=>(a0a tab a0u t0 (nth 0 ds_1)).bind fun t49=>(a0c tab p32.2 a0h t49).bind fun t50=>(a0a tab a0u t0 (nth 0 ds_1)).bind fun t51=>((a0p tab p32.2 a0h t51 t46).bind fun h'=>some ((.und:D),h')).bind fun p915=>(a0a tab a0u t0 t41).bind fun t52=>((a0p tab p915.2 a0h t52 t50).bind fun h'=>some ((.und:D),h')).bind fun p917=>(a0f tab .sub ty3 (nth 0 ds_1) (.int .i64 1)).bind fun t36=>some (.nrm,[t36,t34],p917.2))
  (some ((.ext 2),[nth 0 ds_1,t34],p32.2))
noncomputable def a6k (t0 t1 t2 t3:D) (ds:List D) (h_1:Hp):Option Out :=
 (a0f tab .lss ty3 (nth 0 ds) t2).bind fun t14=>dIf t14
  (((a0z (a6l t0 t1 t3) [nth 0 ds,nth 3 ds] h_1).bind fun r_1=>some ((a0w 2 r_1.1),[nth 0 r_1.2.1,nth 1 r_1.2.1],r_1.2.2)).bind fun r_2=>a0y (a0w 1 r_2.1) ((a0f tab .add ty3 (nth 0 ds) (.int .i64 1)).bind fun t16=>some (.nrm,[t16,nth 0 r_2.2.1,t14,nth 1 r_2.2.1],r_2.2.2)) fun x=>some (x,[nth 0 ds,nth 0 r_2.2.1,t14,nth 1 r_2.2.1],r_2.2.2))
  (some ((.ext 0),[nth 0 ds,nth 1 ds,t14,nth 3 ds],h_1))
noncomputable def b6e (t0 t1 t2 t3:D) (h:Hp):Option (D × Hp) :=
 (a0f tab .add ty3 t1 (.int .i64 1)).bind fun t11=>((a0z (a6k t0 t1 t2 t3) [t11,.any,.any,.any] h).bind fun r=>some ((a0w 0 r.1),[nth 0 r.2.1,nth 1 r.2.1,nth 2 r.2.1,nth 3 r.2.1],r.2.2)).bind fun r_3=>a0M r_3.1 (some (a0m [],r_3.2.2))
theorem b9B (t0 t1 t2 t3:D) (h:Hp):R a4X [t0,t1,t2,t3] h=b6e t0 t1 t2 t3 h :=
 er i79 (by kernel_rfl) (by kernel_rfl)
end Go.Proofs.YtkpnnfhodlanjaaGreatDoor
