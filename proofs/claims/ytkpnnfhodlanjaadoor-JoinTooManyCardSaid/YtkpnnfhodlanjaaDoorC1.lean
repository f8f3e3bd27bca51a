/- Functions as Lean functions on data. -/
import Derived.Test.YtkpnnfhodlanjaaDoorB1
set_option linter.unusedSimpArgs false
set_option linter.unusedVariables false
set_option linter.unnecessarySimpa false
set_option maxRecDepth 100000
namespace Go.Proofs.YtkpnnfhodlanjaaDoor
open Go.Eng Go.Pi
noncomputable def b3q (h:Hp):Option (D × Hp) :=
 (a1o tab a1h [5] [.int .i64 5]).bind fun t1=>(a1o tab a1h [5] [.int .i64 7]).bind fun t2=>(R a3X [t1,t2,.int .i64 2] h).bind fun p3=>(gd p3.1 true (a1o tab a1h [5] [.int .i64 5])).bind fun t5=>(gd p3.1 true (a1o tab a1h [5] [.int .i64 7])).bind fun t6=>(gdW p3.1 true p3.2 (R a3X [t5,t6,.int .i64 1] p3.2)).bind fun p7=>(gd p3.1 true (dUn .not p7.1)).bind fun t8=>(a0S p3.1 t8 (.bool false)).bind fun t9=>some (a0s [t9],p7.2)
theorem b6h (h:Hp):R a5H [] h=b3q h :=
 er i4 (by kernel_rfl) (by kernel_rfl)
noncomputable def b3s (t0 t1 t2:D) (h:Hp):Option (D × Hp) :=
 (a2E t0).bind fun t3=>(a2E t1).bind fun t4=>(a0e tab a1h 5 t3).bind fun t7=>(a0f tab h ty3 t7).bind fun t8=>(a0e tab a1h 5 t4).bind fun t9=>(a0f tab h ty3 t9).bind fun t10=>(a0h tab .sub ty3 t8 t10).bind fun t11=>(a0h tab .leq ty3 t11 t2).bind fun t13=>(gd t13 true (a0e tab a1h 5 t4)).bind fun t15=>(gd t13 true (a0f tab h ty3 t15)).bind fun t16=>(gd t13 true (a0e tab a1h 5 t3)).bind fun t17=>(gd t13 true (a0f tab h ty3 t17)).bind fun t18=>(gd t13 true (a0h tab .sub ty3 t16 t18)).bind fun t19=>(gd t13 true (some t2)).bind fun t20=>(gd t13 true (a0h tab .leq ty3 t19 t20)).bind fun t21=>(a0S t13 t21 (.bool false)).bind fun t22=>some (a0s [t22],h)
theorem b6j (t0 t1 t2:D) (h:Hp):R a3X [t0,t1,t2] h=b3s t0 t1 t2 h :=
 er i6 (by kernel_rfl) (by kernel_rfl)
noncomputable def b3o (t0 t1:D) (h:Hp):Option (D × Hp) :=
 (a2E t0).bind fun t2=>(a2E t1).bind fun t3=>(a0e tab a1h 5 t2).bind fun t5=>(a0f tab h ty3 t5).bind fun t6=>(a0e tab a1h 5 t3).bind fun t7=>(a0f tab h ty3 t7).bind fun t8=>(R a9U [t6,t8] h).bind fun p9=>(a0e tab a1h 0 t2).bind fun t10=>(a0f tab p9.2 ty3 t10).bind fun t11=>(a0e tab a1h 0 t3).bind fun t12=>(a0f tab p9.2 ty3 t12).bind fun t13=>(R a9U [t11,t13] p9.2).bind fun p14=>(a0e tab a1h 1 t2).bind fun t15=>(a0f tab p14.2 ty3 t15).bind fun t16=>(a0e tab a1h 1 t3).bind fun t17=>(a0f tab p14.2 ty3 t17).bind fun t18=>(R a9U [t16,t18] p14.2).bind fun p19=>(a0e tab a1h 2 t2).bind fun t20=>(a0f tab p19.2 ty3 t20).bind fun t21=>(a0e tab a1h 2 t3).bind fun t22=>(a0f tab p19.2 ty3 t22).bind fun t23=>(R a9U [t21,t23] p19.2).bind fun p24=>(a2w tab a9Q 4 [0,1,2,3] [p9.1,p14.1,p19.1,p24.1]).bind fun t25=>(R b4r [t25] p24.2).bind fun p26=>(a0h tab .lss ty3 p26.1 (.int .i64 0)).bind fun t27=>chk (a0f tab h ty3 t10=some t11)
 (chk (a0f tab h ty3 t12=some t13)
 (chk (a0f tab h ty3 t15=some t16)
 (chk (a0f tab p9.2 ty3 t15=some t16)
 (chk (a0f tab h ty3 t17=some t18)
 (chk (a0f tab p9.2 ty3 t17=some t18)
 (chk (a0f tab h ty3 t20=some t21)
 (chk (a0f tab p9.2 ty3 t20=some t21)
 (chk (a0f tab p14.2 ty3 t20=some t21)
 (chk (a0f tab h ty3 t22=some t23)
 (chk (a0f tab p9.2 ty3 t22=some t23)
 (chk (a0f tab p14.2 ty3 t22=some t23)
 (some (a0s [t27],p26.2)))))))))))))
theorem b6f (t0 t1:D) (h:Hp):R a3W [t0,t1] h=b3o t0 t1 h :=
 er i8 (by kernel_rfl) (by kernel_rfl)
noncomputable def b1K (t0 t1:D) (h:Hp):Option (D × Hp) :=
 (a0X tab a0m t0).bind fun t6=>(a1J tab ty3 a2Z t6).bind fun t10=>(R a3x [t10] h).bind fun p11=>(R a4a [t0,.int .i64 0,t6,p11.1,t1] p11.2).bind fun p13=>some (a0s [],p13.2)
theorem b4f (t0 t1:D) (h:Hp):R a3Y [t0,t1] h=b1K t0 t1 h :=
 er i9 (by kernel_rfl) (by kernel_rfl)
noncomputable def b3u (t0 t1:D) (h:Hp):Option (D × Hp) :=
 (a2E t0).bind fun t2=>(a2E t1).bind fun t3=>(a0e tab a0d 0 t2).bind fun t5=>(a0f tab h ty3 t5).bind fun t6=>(a0e tab a0d 0 t3).bind fun t7=>(a0f tab h ty3 t7).bind fun t8=>(R a9U [t6,t8] h).bind fun p9=>(a0e tab a0d 1 t2).bind fun t10=>(a0f tab p9.2 ty3 t10).bind fun t11=>(a0e tab a0d 1 t3).bind fun t12=>(a0f tab p9.2 ty3 t12).bind fun t13=>(R a9U [t11,t13] p9.2).bind fun p14=>(a2w tab a9Q 2 [0,1] [p9.1,p14.1]).bind fun t15=>(R b4r [t15] p14.2).bind fun p16=>chk (a0f tab h ty3 t10=some t11)
 (chk (a0f tab h ty3 t12=some t13)
 (some (a0s [p16.1],p16.2)))
theorem b6l (t0 t1:D) (h:Hp):R a3v [t0,t1] h=b3u t0 t1 h :=
 er i10 (by kernel_rfl) (by kernel_rfl)
noncomputable def a5r (t3m t6m t7:D) (ds:List D) (h_1:Hp):Option Out :=
 (a0h tab .lss ty3 (nth 2 ds) t7).bind fun t9=>dIf t9
  ((a0a tab a9Q t6m (nth 2 ds)).bind fun t10=>(a0f tab h_1 ty3 t10).bind fun t11=>(a0h tab .neq ty3 t11 t3m).bind fun t14=>dIf t14
  (some (.ret,[t11,t11,nth 2 ds,t9,t14],h_1))
  ((a0h tab .add ty3 (nth 2 ds) (.int .i64 1)).bind fun t16=>some (.nrm,[nth 0 ds,t11,t16,t9,t14],h_1)))
  (some ((.ext 0),[nth 0 ds,nth 1 ds,nth 2 ds,t9,nth 4 ds],h_1))
noncomputable def F89 (t0:D) (h:Hp):Option (D × Hp) :=
 (a0X tab a9Q t0).bind fun t7=>((a0v (a5r (.int .i64 0) t0 t7) [.int .i64 0,.any,.int .i64 0,.any,.any] h).bind fun r=>some ((a0t 0 r.1),[nth 0 r.2.1,nth 1 r.2.1,nth 2 r.2.1,nth 3 r.2.1,nth 4 r.2.1],r.2.2)).bind fun r_1=>a0A r_1.1 (some (a0s [.int .i64 0],r_1.2.2)) fun x=>a0M x (some (a0s [nth 0 r_1.2.1],r_1.2.2))
theorem e89 (t0:D) (h:Hp):R b4r [t0] h=F89 t0 h :=
 er i11 (by kernel_rfl) (by kernel_rfl)
noncomputable def F90 (t0 t1:D) (h:Hp):Option (D × Hp) :=
 (R b5G [t0] h).bind fun p8=>(R b5G [t1] p8.2).bind fun p10=>dIf p8.1
  (dIf p10.1
  (some (a0s [.int .i64 0],p10.2))
  (some (a0s [.int .i64 (-1)],p10.2)))
  (dIf p10.1
  (some (a0s [.int .i64 1],p10.2))
  ((a0h tab .lss ty3 t0 t1).bind fun t16=>dIf t16
  (some (a0s [.int .i64 (-1)],p10.2))
  ((a0h tab .gtr ty3 t0 t1).bind fun t19=>dIf t19
  (some (a0s [.int .i64 1],p10.2))
  (some (a0s [.int .i64 0],p10.2)))))
theorem e90 (t0 t1:D) (h:Hp):R a9U [t0,t1] h=F90 t0 t1 h :=
 er i12 (by kernel_rfl) (by kernel_rfl)
noncomputable def b1L (t0 t1:D) (h:Hp):Option (D × Hp) :=
 (a0X tab a0j t0).bind fun t6=>(a1J tab ty3 a2Z t6).bind fun t10=>(R a3x [t10] h).bind fun p11=>(R a4b [t0,.int .i64 0,t6,p11.1,t1] p11.2).bind fun p13=>some (a0s [],p13.2)
theorem b4g (t0 t1:D) (h:Hp):R a3Z [t0,t1] h=b1L t0 t1 h :=
 er i14 (by kernel_rfl) (by kernel_rfl)
noncomputable def b3v (t0 t1:D) (h:Hp):Option (D × Hp) :=
 (a2E t0).bind fun t2=>(a2E t1).bind fun t3=>(a0e tab a0c 1 t2).bind fun t5=>(a0f tab h ty9 t5).bind fun t6=>(a0e tab a0c 1 t3).bind fun t7=>(a0f tab h ty9 t7).bind fun t8=>(R b6O [t6,t8] h).bind fun p9=>(a0e tab a0c 0 t2).bind fun t10=>(a0e tab a1h 5 t10).bind fun t11=>(a0f tab p9.2 ty3 t11).bind fun t12=>(a0e tab a0c 0 t3).bind fun t13=>(a0e tab a1h 5 t13).bind fun t14=>(a0f tab p9.2 ty3 t14).bind fun t15=>(R a9U [t12,t15] p9.2).bind fun p16=>(a0e tab a0c 2 t2).bind fun t17=>(a0f tab p16.2 ty3 t17).bind fun t18=>(a0e tab a0c 2 t3).bind fun t19=>(a0f tab p16.2 ty3 t19).bind fun t20=>(R a9U [t18,t20] p16.2).bind fun p21=>(a2w tab a9Q 3 [0,1,2] [p9.1,p16.1,p21.1]).bind fun t22=>(R b4r [t22] p21.2).bind fun p23=>chk (a0f tab h ty3 t11=some t12)
 (chk (a0f tab h ty3 t14=some t15)
 (chk (a0f tab h ty3 t17=some t18)
 (chk (a0f tab p9.2 ty3 t17=some t18)
 (chk (a0f tab h ty3 t19=some t20)
 (chk (a0f tab p9.2 ty3 t19=some t20)
 (some (a0s [p23.1],p23.2)))))))
theorem b6m (t0 t1:D) (h:Hp):R a3w [t0,t1] h=b3v t0 t1 h :=
 er i15 (by kernel_rfl) (by kernel_rfl)
noncomputable def a4q (t0 t4:D) (ds:List D) (h_1:Hp):Option Out :=
 ((a0h tab .sub ty3 (nth 1 ds) (nth 0 ds)).bind fun t23=>(a0h tab .leq ty3 t23 (.int .i64 12)).bind fun t25=>dIf t25
  ((R a3y [t0,nth 0 ds,nth 1 ds,t4] h_1).bind fun p30=>some (.ret,[nth 0 ds,nth 1 ds,nth 2 ds,nth 3 ds,nth 4 ds,t23,nth 6 ds,nth 7 ds,nth 8 ds,nth 9 ds,nth 10 ds,nth 11 ds,nth 12 ds,nth 13 ds,t25,nth 15 ds,nth 16 ds,nth 17 ds,nth 18 ds,nth 19 ds,nth 20 ds,nth 21 ds],p30.2))
  ((a0h tab .eql ty3 (nth 2 ds) (.int .i64 0)).bind fun t32=>dIf t32
  ((R a8J [t0,nth 0 ds,nth 1 ds,t4] h_1).bind fun p37=>some (.ret,[nth 0 ds,nth 1 ds,nth 2 ds,nth 3 ds,nth 4 ds,t23,nth 6 ds,nth 7 ds,nth 8 ds,nth 9 ds,nth 10 ds,nth 11 ds,nth 12 ds,nth 13 ds,t25,t32,nth 16 ds,nth 17 ds,nth 18 ds,nth 19 ds,nth 20 ds,nth 21 ds],p37.2))
  ((dUn .not (nth 3 ds)).bind fun t39=>(dIf t39
  ((R a8K [t0,nth 0 ds,nth 1 ds,t4] h_1).bind fun p44=>(a0h tab .sub ty3 (nth 2 ds) (.int .i64 1)).bind fun t46=>some (.nrm,[t46],p44.2))
  (some (.nrm,[nth 2 ds],h_1))).bind fun r_1=>a0A r_1.1 ((R a7g [t0,nth 0 ds,nth 1 ds,t4] r_1.2.2).bind fun p52=>(a0x 0 p52.1).bind fun t53=>(a0x 1 p52.1).bind fun t54=>(a0h tab .eql a6d t54 (.int .i64 2)).bind fun t56=>(dIf t56
  ((R a8L [t0,nth 0 ds,nth 1 ds,t4] p52.2).bind fun p61=>(a0h tab .sub ty3 (nth 1 ds) (.int .i64 1)).bind fun t63=>(a0h tab .sub ty3 t53 (nth 0 ds)).bind fun t66=>(a0h tab .sub ty3 t63 t66).bind fun t67=>some (.nrm,[t67,.int .i64 1],p61.2))
  (some (.nrm,[t53,t54],p52.2))).bind fun r_2=>a0A r_2.1 ((gd (nth 3 ds) true (some (nth 4 ds))).bind fun t70=>(a0S (nth 3 ds) t70 (.bool false)).bind fun t71=>(gd t71 true (some (nth 1 r_2.2.1))).bind fun t73=>(gd t71 true (a0h tab .eql a6d t73 (.int .i64 1))).bind fun t74=>(a0S t71 t74 (.bool false)).bind fun t75=>(dIf t75
  ((R a8M [t0,nth 0 ds,nth 1 ds,t4] r_2.2.2).bind fun p80=>dIf p80.1
  (some (.ret,[p80.1],p80.2))
  (some (.nrm,[p80.1],p80.2)))
  (some (.nrm,[nth 19 ds],r_2.2.2))).bind fun r_3=>a0A r_3.1 ((a0h tab .gtr ty3 (nth 0 ds) (.int .i64 0)).bind fun t82=>(gd t82 true (some t4)).bind fun t84=>(gd t82 true (some t0)).bind fun t85=>(gd t82 true (some (nth 0 ds))).bind fun t86=>(gd t82 true (a0h tab .sub ty3 t86 (.int .i64 1))).bind fun t87=>(gd t82 true (a0a tab a0m t85 t87)).bind fun t88=>(gd t82 true (a0f tab r_3.2.2 a0d t88)).bind fun t89=>(gd t82 true (some t0)).bind fun t90=>(gd t82 true (some (nth 0 r_2.2.1))).bind fun t91=>(gd t82 true (a0a tab a0m t90 t91)).bind fun t92=>(gd t82 true (a0f tab r_3.2.2 a0d t92)).bind fun t93=>(gdW t82 true r_3.2.2 (a0W R t84 [t89,t93] r_3.2.2)).bind fun p94=>(gd t82 true (a0h tab .lss ty3 p94.1 (.int .i64 0))).bind fun t95=>(gd t82 true (dUn .not t95)).bind fun t96=>(a0S t82 t96 (.bool false)).bind fun t97=>dIf t97
  ((R b1l [t0,nth 0 ds,nth 1 ds,nth 0 r_2.2.1,t4] p94.2).bind fun p103=>some (.nrm,[p103.1,nth 1 ds,nth 0 r_1.2.1,nth 3 ds,nth 4 ds,t23,nth 0 r_2.2.1,nth 1 r_2.2.1,p103.1,nth 9 ds,nth 10 ds,nth 11 ds,nth 12 ds,nth 13 ds,t25,t32,t39,t56,t75,nth 0 r_3.2.1,t97,nth 21 ds],p103.2))
  ((R a8N [t0,nth 0 ds,nth 1 ds,nth 0 r_2.2.1,t4] p94.2).bind fun p111=>(a0x 0 p111.1).bind fun t112=>(a0x 1 p111.1).bind fun t113=>(a0h tab .sub ty3 t112 (nth 0 ds)).bind fun t117=>(a0h tab .sub ty3 (nth 1 ds) t112).bind fun t120=>(a0h tab .quo ty3 t23 (.int .i64 8)).bind fun t122=>(a0h tab .lss ty3 t117 t120).bind fun t125=>(dIf t125
  ((a0h tab .geq ty3 t117 t122).bind fun t128=>(R a4a [t0,nth 0 ds,t112,nth 0 r_1.2.1,t4] p111.2).bind fun p134=>(a0h tab .add ty3 t112 (.int .i64 1)).bind fun t136=>some (.nrm,[t136,nth 1 ds,t128],p134.2))
  ((a0h tab .geq ty3 t120 t122).bind fun t139=>(a0h tab .add ty3 t112 (.int .i64 1)).bind fun t142=>(R a4a [t0,t142,nth 1 ds,nth 0 r_1.2.1,t4] p111.2).bind fun p146=>some (.nrm,[nth 0 ds,t112,t139],p146.2))).bind fun r_4=>some ((a0t 1 r_4.1),[nth 0 r_4.2.1,nth 1 r_4.2.1,nth 0 r_1.2.1,nth 2 r_4.2.1,t113,t23,nth 0 r_2.2.1,nth 1 r_2.2.1,nth 8 ds,t112,t113,t117,t120,t122,t25,t32,t39,t56,t75,nth 0 r_3.2.1,t97,t125],r_4.2.2))) fun x_2=>some ((a0t 1 x_2),[nth 0 ds,nth 1 ds,nth 0 r_1.2.1,nth 3 ds,nth 4 ds,t23,nth 0 r_2.2.1,nth 1 r_2.2.1,nth 8 ds,nth 9 ds,nth 10 ds,nth 11 ds,nth 12 ds,nth 13 ds,t25,t32,t39,t56,t75,nth 0 r_3.2.1,nth 20 ds,nth 21 ds],r_3.2.2)) fun x_1=>some ((a0t 1 x_1),[nth 0 ds,nth 1 ds,nth 0 r_1.2.1,nth 3 ds,nth 4 ds,t23,nth 0 r_2.2.1,nth 1 r_2.2.1,nth 8 ds,nth 9 ds,nth 10 ds,nth 11 ds,nth 12 ds,nth 13 ds,t25,t32,t39,t56,nth 18 ds,nth 19 ds,nth 20 ds,nth 21 ds],r_2.2.2)) fun x=>some ((a0t 1 x),[nth 0 ds,nth 1 ds,nth 0 r_1.2.1,nth 3 ds,nth 4 ds,t23,nth 6 ds,nth 7 ds,nth 8 ds,nth 9 ds,nth 10 ds,nth 11 ds,nth 12 ds,nth 13 ds,t25,t32,t39,nth 17 ds,nth 18 ds,nth 19 ds,nth 20 ds,nth 21 ds],r_1.2.2)))).bind fun r_5=>some (r_5.1,[nth 0 r_5.2.1,nth 1 r_5.2.1,nth 2 r_5.2.1,nth 3 r_5.2.1,nth 4 r_5.2.1,nth 5 r_5.2.1,nth 6 r_5.2.1,nth 7 r_5.2.1,nth 8 r_5.2.1,nth 9 r_5.2.1,nth 10 r_5.2.1,nth 11 r_5.2.1,nth 12 r_5.2.1,nth 13 r_5.2.1,nth 14 r_5.2.1,nth 15 r_5.2.1,nth 16 r_5.2.1,nth 17 r_5.2.1,nth 18 r_5.2.1,nth 19 r_5.2.1,nth 20 r_5.2.1,nth 21 r_5.2.1],r_5.2.2)
noncomputable def b1M (t0 t1 t2 t3 t4:D) (h:Hp):Option (D × Hp) :=
 (a0v (a4q t0 t4) [t1,t2,t3,.bool true,.bool true,.any,.any,.any,.any,.any,.any,.any,.any,.any,.any,.any,.any,.any,.any,.any,.any,.any] h).bind fun r=>a0M (a0t 0 r.1) (some (a0s [],r.2.2))
theorem b4h (t0 t1 t2 t3 t4:D) (h:Hp):R a4a [t0,t1,t2,t3,t4] h=b1M t0 t1 t2 t3 t4 h :=
 er i16 (by kernel_rfl) (by kernel_rfl)
noncomputable def b3w (t0:D) (h:Hp):Option (D × Hp) :=
 dIf (.bool false)
  ((a1J tab a2Z b3n t0).bind fun t4=>(R b1m [t4] h).bind fun p5=>some (a0s [p5.1],p5.2))
  ((R a8H [t0] h).bind fun p7=>some (a0s [p7.1],p7.2))
theorem b6n (t0:D) (h:Hp):R a3x [t0] h=b3w t0 h :=
 er i17 (by kernel_rfl) (by kernel_rfl)
noncomputable def F99 (t0:D) (h:Hp):Option (D × Hp) :=
 (a0h tab .neq ty3 t0 t0).bind fun t5=>some (a0s [t5],h)
theorem e99 (t0:D) (h:Hp):R b5G [t0] h=F99 t0 h :=
 er i18 (by kernel_rfl) (by kernel_rfl)
noncomputable def F75 (t0 t1:D) (h:Hp):Option (D × Hp) :=
 (a2E t0).bind fun t2=>(a0e tab a1h 9 t2).bind fun t6=>(a0f tab h b2Q t6).bind fun t7=>(R b6N [t7,t1] h).bind fun p9=>(a0x 0 p9.1).bind fun t10=>(a0x 1 p9.1).bind fun t11=>some (a0s [t10,t11],p9.2)
theorem e75 (t0 t1:D) (h:Hp):R b5F [t0,t1] h=F75 t0 t1 h :=
 er i20 (by kernel_rfl) (by kernel_rfl)
noncomputable def a4r (t0 t4:D) (ds:List D) (h_1:Hp):Option Out :=
 ((a0h tab .sub ty3 (nth 1 ds) (nth 0 ds)).bind fun t23=>(a0h tab .leq ty3 t23 (.int .i64 12)).bind fun t25=>dIf t25
  ((R a3z [t0,nth 0 ds,nth 1 ds,t4] h_1).bind fun p30=>some (.ret,[nth 0 ds,nth 1 ds,nth 2 ds,nth 3 ds,nth 4 ds,t23,nth 6 ds,nth 7 ds,nth 8 ds,nth 9 ds,nth 10 ds,nth 11 ds,nth 12 ds,nth 13 ds,t25,nth 15 ds,nth 16 ds,nth 17 ds,nth 18 ds,nth 19 ds,nth 20 ds,nth 21 ds],p30.2))
  ((a0h tab .eql ty3 (nth 2 ds) (.int .i64 0)).bind fun t32=>dIf t32
  ((R a8O [t0,nth 0 ds,nth 1 ds,t4] h_1).bind fun p37=>some (.ret,[nth 0 ds,nth 1 ds,nth 2 ds,nth 3 ds,nth 4 ds,t23,nth 6 ds,nth 7 ds,nth 8 ds,nth 9 ds,nth 10 ds,nth 11 ds,nth 12 ds,nth 13 ds,t25,t32,nth 16 ds,nth 17 ds,nth 18 ds,nth 19 ds,nth 20 ds,nth 21 ds],p37.2))
  ((dUn .not (nth 3 ds)).bind fun t39=>(dIf t39
  ((R a8P [t0,nth 0 ds,nth 1 ds,t4] h_1).bind fun p44=>(a0h tab .sub ty3 (nth 2 ds) (.int .i64 1)).bind fun t46=>some (.nrm,[t46],p44.2))
  (some (.nrm,[nth 2 ds],h_1))).bind fun r_1=>a0A r_1.1 ((R a7h [t0,nth 0 ds,nth 1 ds,t4] r_1.2.2).bind fun p52=>(a0x 0 p52.1).bind fun t53=>(a0x 1 p52.1).bind fun t54=>(a0h tab .eql a6d t54 (.int .i64 2)).bind fun t56=>(dIf t56
  ((R a8Q [t0,nth 0 ds,nth 1 ds,t4] p52.2).bind fun p61=>(a0h tab .sub ty3 (nth 1 ds) (.int .i64 1)).bind fun t63=>(a0h tab .sub ty3 t53 (nth 0 ds)).bind fun t66=>(a0h tab .sub ty3 t63 t66).bind fun t67=>some (.nrm,[t67,.int .i64 1],p61.2))
  (some (.nrm,[t53,t54],p52.2))).bind fun r_2=>a0A r_2.1 ((gd (nth 3 ds) true (some (nth 4 ds))).bind fun t70=>(a0S (nth 3 ds) t70 (.bool false)).bind fun t71=>(gd t71 true (some (nth 1 r_2.2.1))).bind fun t73=>(gd t71 true (a0h tab .eql a6d t73 (.int .i64 1))).bind fun t74=>(a0S t71 t74 (.bool false)).bind fun t75=>(dIf t75
  ((R a8R [t0,nth 0 ds,nth 1 ds,t4] r_2.2.2).bind fun p80=>dIf p80.1
  (some (.ret,[p80.1],p80.2))
  (some (.nrm,[p80.1],p80.2)))
  (some (.nrm,[nth 19 ds],r_2.2.2))).bind fun r_3=>a0A r_3.1 ((a0h tab .gtr ty3 (nth 0 ds) (.int .i64 0)).bind fun t82=>(gd t82 true (some t4)).bind fun t84=>(gd t82 true (some t0)).bind fun t85=>(gd t82 true (some (nth 0 ds))).bind fun t86=>(gd t82 true (a0h tab .sub ty3 t86 (.int .i64 1))).bind fun t87=>(gd t82 true (a0a tab a0j t85 t87)).bind fun t88=>(gd t82 true (a0f tab r_3.2.2 a0c t88)).bind fun t89=>(gd t82 true (some t0)).bind fun t90=>(gd t82 true (some (nth 0 r_2.2.1))).bind fun t91=>(gd t82 true (a0a tab a0j t90 t91)).bind fun t92=>(gd t82 true (a0f tab r_3.2.2 a0c t92)).bind fun t93=>(gdW t82 true r_3.2.2 (a0W R t84 [t89,t93] r_3.2.2)).bind fun p94=>(gd t82 true (a0h tab .lss ty3 p94.1 (.int .i64 0))).bind fun t95=>(gd t82 true (dUn .not t95)).bind fun t96=>(a0S t82 t96 (.bool false)).bind fun t97=>dIf t97
  ((R b1n [t0,nth 0 ds,nth 1 ds,nth 0 r_2.2.1,t4] p94.2).bind fun p103=>some (.nrm,[p103.1,nth 1 ds,nth 0 r_1.2.1,nth 3 ds,nth 4 ds,t23,nth 0 r_2.2.1,nth 1 r_2.2.1,p103.1,nth 9 ds,nth 10 ds,nth 11 ds,nth 12 ds,nth 13 ds,t25,t32,t39,t56,t75,nth 0 r_3.2.1,t97,nth 21 ds],p103.2))
  ((R a8S [t0,nth 0 ds,nth 1 ds,nth 0 r_2.2.1,t4] p94.2).bind fun p111=>(a0x 0 p111.1).bind fun t112=>(a0x 1 p111.1).bind fun t113=>(a0h tab .sub ty3 t112 (nth 0 ds)).bind fun t117=>(a0h tab .sub ty3 (nth 1 ds) t112).bind fun t120=>(a0h tab .quo ty3 t23 (.int .i64 8)).bind fun t122=>(a0h tab .lss ty3 t117 t120).bind fun t125=>(dIf t125
  ((a0h tab .geq ty3 t117 t122).bind fun t128=>(R a4b [t0,nth 0 ds,t112,nth 0 r_1.2.1,t4] p111.2).bind fun p134=>(a0h tab .add ty3 t112 (.int .i64 1)).bind fun t136=>some (.nrm,[t136,nth 1 ds,t128],p134.2))
  ((a0h tab .geq ty3 t120 t122).bind fun t139=>(a0h tab .add ty3 t112 (.int .i64 1)).bind fun t142=>(R a4b [t0,t142,nth 1 ds,nth 0 r_1.2.1,t4] p111.2).bind fun p146=>some (.nrm,[nth 0 ds,t112,t139],p146.2))).bind fun r_4=>some ((a0t 1 r_4.1),[nth 0 r_4.2.1,nth 1 r_4.2.1,nth 0 r_1.2.1,nth 2 r_4.2.1,t113,t23,nth 0 r_2.2.1,nth 1 r_2.2.1,nth 8 ds,t112,t113,t117,t120,t122,t25,t32,t39,t56,t75,nth 0 r_3.2.1,t97,t125],r_4.2.2))) fun x_2=>some ((a0t 1 x_2),[nth 0 ds,nth 1 ds,nth 0 r_1.2.1,nth 3 ds,nth 4 ds,t23,nth 0 r_2.2.1,nth 1 r_2.2.1,nth 8 ds,nth 9 ds,nth 10 ds,nth 11 ds,nth 12 ds,nth 13 ds,t25,t32,t39,t56,t75,nth 0 r_3.2.1,nth 20 ds,nth 21 ds],r_3.2.2)) fun x_1=>some ((a0t 1 x_1),[nth 0 ds,nth 1 ds,nth 0 r_1.2.1,nth 3 ds,nth 4 ds,t23,nth 0 r_2.2.1,nth 1 r_2.2.1,nth 8 ds,nth 9 ds,nth 10 ds,nth 11 ds,nth 12 ds,nth 13 ds,t25,t32,t39,t56,nth 18 ds,nth 19 ds,nth 20 ds,nth 21 ds],r_2.2.2)) fun x=>some ((a0t 1 x),[nth 0 ds,nth 1 ds,nth 0 r_1.2.1,nth 3 ds,nth 4 ds,t23,nth 6 ds,nth 7 ds,nth 8 ds,nth 9 ds,nth 10 ds,nth 11 ds,nth 12 ds,nth 13 ds,t25,t32,t39,nth 17 ds,nth 18 ds,nth 19 ds,nth 20 ds,nth 21 ds],r_1.2.2)))).bind fun r_5=>some (r_5.1,[nth 0 r_5.2.1,nth 1 r_5.2.1,nth 2 r_5.2.1,nth 3 r_5.2.1,nth 4 r_5.2.1,nth 5 r_5.2.1,nth 6 r_5.2.1,nth 7 r_5.2.1,nth 8 r_5.2.1,nth 9 r_5.2.1,nth 10 r_5.2.1,nth 11 r_5.2.1,nth 12 r_5.2.1,nth 13 r_5.2.1,nth 14 r_5.2.1,nth 15 r_5.2.1,nth 16 r_5.2.1,nth 17 r_5.2.1,nth 18 r_5.2.1,nth 19 r_5.2.1,nth 20 r_5.2.1,nth 21 r_5.2.1],r_5.2.2)
noncomputable def b1N (t0 t1 t2 t3 t4:D) (h:Hp):Option (D × Hp) :=
 (a0v (a4r t0 t4) [t1,t2,t3,.bool true,.bool true,.any,.any,.any,.any,.any,.any,.any,.any,.any,.any,.any,.any,.any,.any,.any,.any,.any] h).bind fun r=>a0M (a0t 0 r.1) (some (a0s [],r.2.2))
theorem b4i (t0 t1 t2 t3 t4:D) (h:Hp):R a4b [t0,t1,t2,t3,t4] h=b1N t0 t1 t2 t3 t4 h :=
 er i21 (by kernel_rfl) (by kernel_rfl)
noncomputable def F91 (t0 t1:D) (h:Hp):Option (D × Hp) :=
 (R b0z [t0] h).bind fun p8=>(R b0z [t1] p8.2).bind fun p10=>dIf p8.1
  (dIf p10.1
  (some (a0s [.int .i64 0],p10.2))
  (some (a0s [.int .i64 (-1)],p10.2)))
  (dIf p10.1
  (some (a0s [.int .i64 1],p10.2))
  ((a0h tab .lss ty9 t0 t1).bind fun t16=>dIf t16
  (some (a0s [.int .i64 (-1)],p10.2))
  ((a0h tab .gtr ty9 t0 t1).bind fun t19=>dIf t19
  (some (a0s [.int .i64 1],p10.2))
  (some (a0s [.int .i64 0],p10.2)))))
theorem e91 (t0 t1:D) (h:Hp):R b6O [t0,t1] h=F91 t0 t1 h :=
 er i22 (by kernel_rfl) (by kernel_rfl)
noncomputable def a4t (t0 t1 t3:D) (ds_1:List D) (h_2:Hp):Option Out :=
 (a0h tab .gtr ty3 (nth 0 ds_1) t1).bind fun t20=>(gd t20 true (some t3)).bind fun t22=>(gd t20 true (some t0)).bind fun t23=>(gd t20 true (some (nth 0 ds_1))).bind fun t24=>(gd t20 true (a0a tab a0m t23 t24)).bind fun t25=>(gd t20 true (a0f tab h_2 a0d t25)).bind fun t26=>(gd t20 true (some t0)).bind fun t27=>(gd t20 true (some (nth 0 ds_1))).bind fun t28=>(gd t20 true (a0h tab .sub ty3 t28 (.int .i64 1))).bind fun t29=>(gd t20 true (a0a tab a0m t27 t29)).bind fun t30=>(gd t20 true (a0f tab h_2 a0d t30)).bind fun t31=>(gdW t20 true h_2 (a0W R t22 [t26,t31] h_2)).bind fun p32=>(gd t20 true (a0h tab .lss ty3 p32.1 (.int .i64 0))).bind fun t33=>(a0S t20 t33 (.bool false)).bind fun t34=>dIf t34
  ((a0h tab .sub ty3 (nth 0 ds_1) (.int .i64 1)).bind fun t41=>(a0h tab .sub ty3 (nth 0 ds_1) (.int .i64 1)).bind fun t44=>(a0a tab a0m t0 t44).bind fun t45=>(a0f tab p32.2 a0d t45).bind fun t46=>(a0a tab a0m t0 (nth 0 ds_1)).bind fun t49=>(a0f tab p32.2 a0d t49).bind fun t50=>(a0a tab a0m t0 (nth 0 ds_1)).bind fun t51=>((a0q tab p32.2 a0d t51 t46).bind fun h'=>some ((.und:D),h')).bind fun p915=>(a0a tab a0m t0 t41).bind fun t52=>((a0q tab p915.2 a0d t52 t50).bind fun h'=>some ((.und:D),h')).bind fun p917=>(a0h tab .sub ty3 (nth 0 ds_1) (.int .i64 1)).bind fun t36=>some (.nrm,[t36,t34],p917.2))
  (some ((.ext 2),[nth 0 ds_1,t34],p32.2))
noncomputable def a4s (t0 t1 t2 t3:D) (ds:List D) (h_1:Hp):Option Out :=
 (a0h tab .lss ty3 (nth 0 ds) t2).bind fun t14=>dIf t14
  (((a0v (a4t t0 t1 t3) [nth 0 ds,nth 3 ds] h_1).bind fun r_1=>some ((a0t 2 r_1.1),[nth 0 r_1.2.1,nth 1 r_1.2.1],r_1.2.2)).bind fun r_2=>a0A (a0t 1 r_2.1) ((a0h tab .add ty3 (nth 0 ds) (.int .i64 1)).bind fun t16=>some (.nrm,[t16,nth 0 r_2.2.1,t14,nth 1 r_2.2.1],r_2.2.2)) fun x=>some (x,[nth 0 ds,nth 0 r_2.2.1,t14,nth 1 r_2.2.1],r_2.2.2))
  (some ((.ext 0),[nth 0 ds,nth 1 ds,t14,nth 3 ds],h_1))
noncomputable def b1O (t0 t1 t2 t3:D) (h:Hp):Option (D × Hp) :=
 (a0h tab .add ty3 t1 (.int .i64 1)).bind fun t11=>((a0v (a4s t0 t1 t2 t3) [t11,.any,.any,.any] h).bind fun r=>some ((a0t 0 r.1),[nth 0 r.2.1,nth 1 r.2.1,nth 2 r.2.1,nth 3 r.2.1],r.2.2)).bind fun r_3=>a0M r_3.1 (some (a0s [],r_3.2.2))
theorem b4j (t0 t1 t2 t3:D) (h:Hp):R a3y [t0,t1,t2,t3] h=b1O t0 t1 t2 t3 h :=
 er i23 (by kernel_rfl) (by kernel_rfl)
noncomputable def a6C (t0 t3 t8m t10m:D) (ds:List D) (h_1:Hp):Option Out :=
 (a0h tab .geq ty3 (nth 0 ds) (.int .i64 0)).bind fun t21=>dIf t21
  ((R a7i [t0,nth 0 ds,t10m,t8m,t3] h_1).bind fun p29=>(a0h tab .sub ty3 (nth 0 ds) (.int .i64 1)).bind fun t23=>some (.nrm,[t23,t21],p29.2))
  (some ((.ext 0),[nth 0 ds,t21],h_1))
noncomputable def a6D (t0 t3 t8m t9m:D) (ds_1:List D) (h_2:Hp):Option Out :=
 (a0h tab .geq ty3 (nth 0 ds_1) (.int .i64 0)).bind fun t33=>dIf t33
  ((a0h tab .add ty3 t8m (nth 0 ds_1)).bind fun t41=>(a0h tab .add ty3 t8m (nth 0 ds_1)).bind fun t45=>(a0a tab a0m t0 t45).bind fun t46=>(a0f tab h_2 a0d t46).bind fun t47=>(a0a tab a0m t0 t8m).bind fun t50=>(a0f tab h_2 a0d t50).bind fun t51=>(a0a tab a0m t0 t8m).bind fun t52=>((a0q tab h_2 a0d t52 t47).bind fun h'=>some ((.und:D),h')).bind fun p917=>(a0a tab a0m t0 t41).bind fun t53=>((a0q tab p917.2 a0d t53 t51).bind fun h'=>some ((.und:D),h')).bind fun p919=>(R a7i [t0,t9m,nth 0 ds_1,t8m,t3] p919.2).bind fun p59=>(a0h tab .sub ty3 (nth 0 ds_1) (.int .i64 1)).bind fun t35=>some (.nrm,[t35,t33],p59.2))
  (some ((.ext 2),[nth 0 ds_1,t33],h_2))
noncomputable def b3x (t0 t1 t2 t3:D) (h:Hp):Option (D × Hp) :=
 (a0h tab .sub ty3 t2 t1).bind fun t16=>(a0h tab .sub ty3 t16 (.int .i64 1)).bind fun t18=>(a0h tab .quo ty3 t18 (.int .i64 2)).bind fun t19=>((a0v (a6C t0 t3 t1 t16) [t19,.any] h).bind fun r=>some ((a0t 0 r.1),[nth 0 r.2.1,nth 1 r.2.1],r.2.2)).bind fun r_1=>a0A r_1.1 ((a0h tab .sub ty3 t16 (.int .i64 1)).bind fun t31=>((a0v (a6D t0 t3 t1 (.int .i64 0)) [t31,.any] r_1.2.2).bind fun r_2=>some ((a0t 2 r_2.1),[nth 0 r_2.2.1,nth 1 r_2.2.1],r_2.2.2)).bind fun r_3=>a0M r_3.1 (some (a0s [],r_3.2.2))) fun x=>a0M x (some (a0s [],r_1.2.2))
theorem b6o (t0 t1 t2 t3:D) (h:Hp):R a8J [t0,t1,t2,t3] h=b3x t0 t1 t2 t3 h :=
 er i24 (by kernel_rfl) (by kernel_rfl)
noncomputable def a6E (t0 t1 t8m:D) (p9:D × Hp) (t10m:D) (ds:List D) (h_1:Hp):Option Out :=
 (a0h tab .quo ty3 t8m (.int .i64 4)).bind fun t31=>(a0h tab .mul ty3 t31 (.int .i64 2)).bind fun t32=>(a0h tab .add ty3 t1 t32).bind fun t33=>(a0h tab .add ty3 t33 (.int .i64 1)).bind fun t34=>(a0h tab .leq ty3 (nth 0 ds) t34).bind fun t35=>dIf t35
  ((R a7k [p9.1] h_1).bind fun p38=>(a0h tab .sub a2Z t10m (.int .u64 1)).bind fun t40=>(a0h tab .and a2Z p38.1 t40).bind fun t41=>(a1J tab a2Z ty3 t41).bind fun t42=>(a0h tab .geq ty3 t42 t8m).bind fun t45=>(dIf t45
  ((a0h tab .sub ty3 t42 t8m).bind fun t48=>some (.nrm,[t48],p38.2))
  (some (.nrm,[t42],p38.2))).bind fun r_1=>a0A r_1.1 ((a0h tab .add ty3 t1 (nth 0 r_1.2.1)).bind fun t54=>(a0h tab .add ty3 t1 (nth 0 r_1.2.1)).bind fun t58=>(a0a tab a0m t0 t58).bind fun t59=>(a0f tab r_1.2.2 a0d t59).bind fun t60=>(a0a tab a0m t0 (nth 0 ds)).bind fun t63=>(a0f tab r_1.2.2 a0d t63).bind fun t64=>(a0a tab a0m t0 (nth 0 ds)).bind fun t65=>((a0q tab r_1.2.2 a0d t65 t60).bind fun h'=>some ((.und:D),h')).bind fun p917=>(a0a tab a0m t0 t54).bind fun t66=>((a0q tab p917.2 a0d t66 t64).bind fun h'=>some ((.und:D),h')).bind fun p919=>(a0h tab .add ty3 (nth 0 ds) (.int .i64 1)).bind fun t37=>some (.nrm,[t37,nth 0 r_1.2.1,t35,t45],p919.2)) fun x=>a0A (a0t 1 x) ((a0h tab .add ty3 (nth 0 ds) (.int .i64 1)).bind fun t37_1=>some (.nrm,[t37_1,nth 0 r_1.2.1,t35,t45],r_1.2.2)) fun x_1=>some (x_1,[nth 0 ds,nth 0 r_1.2.1,t35,t45],r_1.2.2))
  (some ((.ext 0),[nth 0 ds,nth 1 ds,t35,nth 3 ds],h_1))
noncomputable def b3y (t0 t1 t2 t3:D) (h:Hp):Option (D × Hp) :=
 (a0h tab .sub ty3 t2 t1).bind fun t15=>(a0h tab .geq ty3 t15 (.int .i64 8)).bind fun t17=>(dIf t17
  ((a1J tab ty3 a0B t15).bind fun t19=>(some ((.ptr h.length 0 0:D),a1p h a0B 1 [[.int .u64 0]])).bind fun p9=>((a0q tab p9.2 a0B p9.1 t19).bind fun h'=>some ((.und:D),h')).bind fun p903=>(R a7j [t15] p903.2).bind fun p21=>(a0h tab .quo ty3 t15 (.int .i64 4)).bind fun t24=>(a0h tab .mul ty3 t24 (.int .i64 2)).bind fun t25=>(a0h tab .add ty3 t1 t25).bind fun t26=>(a0h tab .sub ty3 t26 (.int .i64 1)).bind fun t27=>((a0v (a6E t0 t1 t15 p9 p21.1) [t27,.any,.any,.any] p21.2).bind fun r=>some ((a0t 0 r.1),[nth 0 r.2.1,nth 1 r.2.1,nth 2 r.2.1,nth 3 r.2.1],r.2.2)).bind fun r_2=>some (r_2.1,[p9.1,p21.1,nth 0 r_2.2.1,nth 1 r_2.2.1,nth 2 r_2.2.1,nth 3 r_2.2.1],r_2.2.2))
  (some (.nrm,[.any,.any,.any,.any,.any,.any],h))).bind fun r_3=>a0M r_3.1 (scope h r_3.2.2 (a0s []))
theorem b6p (t0 t1 t2 t3:D) (h:Hp):R a8K [t0,t1,t2,t3] h=b3y t0 t1 t2 t3 h :=
 er i25 (by kernel_rfl) (by kernel_rfl)
noncomputable def b3z (t0 t1 t2 t3:D) (h:Hp):Option (D × Hp) :=
 (a0h tab .sub ty3 t2 t1).bind fun t17=>(some ((.ptr h.length 0 0:D),a1p h ty3 1 [[.int .i64 0]])).bind fun p11=>(a0h tab .quo ty3 t17 (.int .i64 4)).bind fun t20=>(a0h tab .mul ty3 t20 (.int .i64 1)).bind fun t21=>(a0h tab .add ty3 t1 t21).bind fun t22=>(a0h tab .quo ty3 t17 (.int .i64 4)).bind fun t25=>(a0h tab .mul ty3 t25 (.int .i64 2)).bind fun t26=>(a0h tab .add ty3 t1 t26).bind fun t27=>(a0h tab .quo ty3 t17 (.int .i64 4)).bind fun t30=>(a0h tab .mul ty3 t30 (.int .i64 3)).bind fun t31=>(a0h tab .add ty3 t1 t31).bind fun t32=>(a0h tab .geq ty3 t17 (.int .i64 8)).bind fun t34=>(dIf t34
  ((a0h tab .geq ty3 t17 (.int .i64 50)).bind fun t36=>(dIf t36
  ((R a5K [t0,t22,p11.1,t3] p11.2).bind fun p40=>(R a5K [t0,t27,p11.1,t3] p40.2).bind fun p44=>(R a5K [t0,t32,p11.1,t3] p44.2).bind fun p48=>some (.nrm,[p40.1,p44.1,p48.1],p48.2))
  (some (.nrm,[t22,t27,t32],p11.2))).bind fun r=>a0A r.1 ((R a7l [t0,nth 0 r.2.1,nth 1 r.2.1,nth 2 r.2.1,p11.1,t3] r.2.2).bind fun p54=>some (.nrm,[nth 0 r.2.1,p54.1,nth 2 r.2.1,t36],p54.2)) fun x=>some (x,[nth 0 r.2.1,nth 1 r.2.1,nth 2 r.2.1,t36],r.2.2))
  (some (.nrm,[t22,t27,t32,.any],p11.2))).bind fun r_1=>a0A r_1.1 ((a0f tab r_1.2.2 ty3 p11.1).bind fun t55=>(a0h tab .eql ty3 t55 (.int .i64 0)).bind fun t58=>dIf t58
  (scope h r_1.2.2 (a0s [nth 1 r_1.2.1,.int .i64 1]))
  ((a0h tab .eql ty3 t55 (.int .i64 12)).bind fun t61=>dIf t61
  (scope h r_1.2.2 (a0s [nth 1 r_1.2.1,.int .i64 2]))
  (scope h r_1.2.2 (a0s [nth 1 r_1.2.1,.int .i64 0])))) fun x_1=>a0M x_1 (scope h r_1.2.2 (a0s [.int .i64 0,.int .i64 0]))
theorem b6q (t0 t1 t2 t3:D) (h:Hp):R a7g [t0,t1,t2,t3] h=b3z t0 t1 t2 t3 h :=
 er i26 (by kernel_rfl) (by kernel_rfl)
noncomputable def a6F (t0:D) (ds:List D) (h_1:Hp):Option Out :=
 (a0h tab .lss ty3 (nth 0 ds) (nth 1 ds)).bind fun t15=>dIf t15
  ((a0a tab a0m t0 (nth 1 ds)).bind fun t22=>(a0f tab h_1 a0d t22).bind fun t23=>(a0a tab a0m t0 (nth 0 ds)).bind fun t26=>(a0f tab h_1 a0d t26).bind fun t27=>(a0a tab a0m t0 (nth 0 ds)).bind fun t28=>((a0q tab h_1 a0d t28 t23).bind fun h'=>some ((.und:D),h')).bind fun p913=>(a0a tab a0m t0 (nth 1 ds)).bind fun t29=>((a0q tab p913.2 a0d t29 t27).bind fun h'=>some ((.und:D),h')).bind fun p915=>(a0h tab .add ty3 (nth 0 ds) (.int .i64 1)).bind fun t31=>(a0h tab .sub ty3 (nth 1 ds) (.int .i64 1)).bind fun t33=>some (.nrm,[t31,t33,t15],p915.2))
  (some ((.ext 0),[nth 0 ds,nth 1 ds,t15],h_1))
noncomputable def b3A (t0 t1 t2 t3:D) (h:Hp):Option (D × Hp) :=
 (a0h tab .sub ty3 t2 (.int .i64 1)).bind fun t12=>((a0v (a6F t0) [t1,t12,.any] h).bind fun r=>some ((a0t 0 r.1),[nth 0 r.2.1,nth 1 r.2.1,nth 2 r.2.1],r.2.2)).bind fun r_1=>a0M r_1.1 (some (a0s [],r_1.2.2))
theorem b6r (t0 t1 t2 t3:D) (h:Hp):R a8L [t0,t1,t2,t3] h=b3A t0 t1 t2 t3 h :=
 er i27 (by kernel_rfl) (by kernel_rfl)
noncomputable def a4u (t0 t2 t3:D) (ds_1:List D) (h_2:Hp):Option Out :=
 (a0h tab .lss ty3 (nth 0 ds_1) t2).bind fun t21=>(gd t21 true (some t3)).bind fun t23=>(gd t21 true (some t0)).bind fun t24=>(gd t21 true (some (nth 0 ds_1))).bind fun t25=>(gd t21 true (a0a tab a0m t24 t25)).bind fun t26=>(gd t21 true (a0f tab h_2 a0d t26)).bind fun t27=>(gd t21 true (some t0)).bind fun t28=>(gd t21 true (some (nth 0 ds_1))).bind fun t29=>(gd t21 true (a0h tab .sub ty3 t29 (.int .i64 1))).bind fun t30=>(gd t21 true (a0a tab a0m t28 t30)).bind fun t31=>(gd t21 true (a0f tab h_2 a0d t31)).bind fun t32=>(gdW t21 true h_2 (a0W R t23 [t27,t32] h_2)).bind fun p33=>(gd t21 true (a0h tab .lss ty3 p33.1 (.int .i64 0))).bind fun t34=>(gd t21 true (dUn .not t34)).bind fun t35=>(a0S t21 t35 (.bool false)).bind fun t36=>dIf t36
  ((a0h tab .add ty3 (nth 0 ds_1) (.int .i64 1)).bind fun t38=>some (.nrm,[t38,t36],p33.2))
  (some ((.ext 2),[nth 0 ds_1,t36],p33.2))
noncomputable def a4v (t0 t3:D) (ds_2:List D) (h_3:Hp):Option Out :=
 (a0h tab .geq ty3 (nth 0 ds_2) (.int .i64 1)).bind fun t69=>dIf t69
  ((a0a tab a0m t0 (nth 0 ds_2)).bind fun t75=>(a0f tab h_3 a0d t75).bind fun t76=>(a0h tab .sub ty3 (nth 0 ds_2) (.int .i64 1)).bind fun t79=>(a0a tab a0m t0 t79).bind fun t80=>(a0f tab h_3 a0d t80).bind fun t81=>(a0W R t3 [t76,t81] h_3).bind fun p82=>(a0h tab .lss ty3 p82.1 (.int .i64 0)).bind fun t83=>(dUn .not t83).bind fun t84=>dIf t84
  (some ((.ext 4),[nth 0 ds_2,t69,t84],p82.2))
  ((a0h tab .sub ty3 (nth 0 ds_2) (.int .i64 1)).bind fun t89=>(a0h tab .sub ty3 (nth 0 ds_2) (.int .i64 1)).bind fun t92=>(a0a tab a0m t0 t92).bind fun t93=>(a0f tab p82.2 a0d t93).bind fun t94=>(a0a tab a0m t0 (nth 0 ds_2)).bind fun t97=>(a0f tab p82.2 a0d t97).bind fun t98=>(a0a tab a0m t0 (nth 0 ds_2)).bind fun t99=>((a0q tab p82.2 a0d t99 t94).bind fun h'=>some ((.und:D),h')).bind fun p915_1=>(a0a tab a0m t0 t89).bind fun t100=>((a0q tab p915_1.2 a0d t100 t98).bind fun h'=>some ((.und:D),h')).bind fun p917_1=>(a0h tab .sub ty3 (nth 0 ds_2) (.int .i64 1)).bind fun t71=>some (.nrm,[t71,t69,t84],p917_1.2)))
  (some ((.ext 4),[nth 0 ds_2,t69,nth 2 ds_2],h_3))
noncomputable def a4w (t0 t2 t3:D) (ds_3:List D) (h_4:Hp):Option Out :=
 (a0h tab .lss ty3 (nth 0 ds_3) t2).bind fun t109=>dIf t109
  ((a0a tab a0m t0 (nth 0 ds_3)).bind fun t115=>(a0f tab h_4 a0d t115).bind fun t116=>(a0h tab .sub ty3 (nth 0 ds_3) (.int .i64 1)).bind fun t119=>(a0a tab a0m t0 t119).bind fun t120=>(a0f tab h_4 a0d t120).bind fun t121=>(a0W R t3 [t116,t121] h_4).bind fun p122=>(a0h tab .lss ty3 p122.1 (.int .i64 0)).bind fun t123=>(dUn .not t123).bind fun t124=>dIf t124
  (some ((.ext 6),[nth 0 ds_3,t109,t124],p122.2))
  ((a0h tab .sub ty3 (nth 0 ds_3) (.int .i64 1)).bind fun t129=>(a0h tab .sub ty3 (nth 0 ds_3) (.int .i64 1)).bind fun t132=>(a0a tab a0m t0 t132).bind fun t133=>(a0f tab p122.2 a0d t133).bind fun t134=>(a0a tab a0m t0 (nth 0 ds_3)).bind fun t137=>(a0f tab p122.2 a0d t137).bind fun t138=>(a0a tab a0m t0 (nth 0 ds_3)).bind fun t139=>((a0q tab p122.2 a0d t139 t134).bind fun h'=>some ((.und:D),h')).bind fun p915_2=>(a0a tab a0m t0 t129).bind fun t140=>((a0q tab p915_2.2 a0d t140 t138).bind fun h'=>some ((.und:D),h')).bind fun p917_2=>(a0h tab .add ty3 (nth 0 ds_3) (.int .i64 1)).bind fun t111=>some (.nrm,[t111,t109,t124],p917_2.2)))
  (some ((.ext 6),[nth 0 ds_3,t109,nth 2 ds_3],h_4))
noncomputable def a6G (t0 t1 t2 t3:D) (ds:List D) (h_1:Hp):Option Out :=
 (a0h tab .lss ty3 (nth 2 ds) (.int .i64 5)).bind fun t16=>dIf t16
  (((a0v (a4u t0 t2 t3) [nth 1 ds,nth 6 ds] h_1).bind fun r_1=>some ((a0t 2 r_1.1),[nth 0 r_1.2.1,nth 1 r_1.2.1],r_1.2.2)).bind fun r_2=>a0A r_2.1 ((a0h tab .eql ty3 (nth 0 r_2.2.1) t2).bind fun t41=>dIf t41
  (some (.ret,[.bool true,nth 0 r_2.2.1,nth 2 ds,nth 3 ds,nth 4 ds,t16,nth 1 r_2.2.1,t41,nth 8 ds,nth 9 ds,nth 10 ds,nth 11 ds,nth 12 ds,nth 13 ds,nth 14 ds],r_2.2.2))
  ((a0h tab .sub ty3 t2 t1).bind fun t44=>(a0h tab .lss ty3 t44 (.int .i64 50)).bind fun t45=>dIf t45
  (some (.ret,[.bool false,nth 0 r_2.2.1,nth 2 ds,nth 3 ds,nth 4 ds,t16,nth 1 r_2.2.1,t41,t45,nth 9 ds,nth 10 ds,nth 11 ds,nth 12 ds,nth 13 ds,nth 14 ds],r_2.2.2))
  ((a0h tab .sub ty3 (nth 0 r_2.2.1) (.int .i64 1)).bind fun t50=>(a0h tab .sub ty3 (nth 0 r_2.2.1) (.int .i64 1)).bind fun t53=>(a0a tab a0m t0 t53).bind fun t54=>(a0f tab r_2.2.2 a0d t54).bind fun t55=>(a0a tab a0m t0 (nth 0 r_2.2.1)).bind fun t58=>(a0f tab r_2.2.2 a0d t58).bind fun t59=>(a0a tab a0m t0 (nth 0 r_2.2.1)).bind fun t60=>((a0q tab r_2.2.2 a0d t60 t55).bind fun h'=>some ((.und:D),h')).bind fun p915=>(a0a tab a0m t0 t50).bind fun t61=>((a0q tab p915.2 a0d t61 t59).bind fun h'=>some ((.und:D),h')).bind fun p917=>(a0h tab .sub ty3 (nth 0 r_2.2.1) t1).bind fun t64=>(a0h tab .geq ty3 t64 (.int .i64 2)).bind fun t65=>(dIf t65
  ((a0h tab .sub ty3 (nth 0 r_2.2.1) (.int .i64 1)).bind fun t67=>((a0v (a4v t0 t3) [t67,nth 10 ds,nth 11 ds] p917.2).bind fun r_3=>some ((a0t 4 r_3.1),[nth 0 r_3.2.1,nth 1 r_3.2.1,nth 2 r_3.2.1],r_3.2.2)).bind fun r_4=>some (r_4.1,[nth 0 r_4.2.1,nth 1 r_4.2.1,nth 2 r_4.2.1],r_4.2.2))
  (some (.nrm,[nth 3 ds,nth 10 ds,nth 11 ds],p917.2))).bind fun r_5=>a0A r_5.1 ((a0h tab .sub ty3 t2 (nth 0 r_2.2.1)).bind fun t103=>(a0h tab .geq ty3 t103 (.int .i64 2)).bind fun t104=>(dIf t104
  ((a0h tab .add ty3 (nth 0 r_2.2.1) (.int .i64 1)).bind fun t106=>((a0v (a4w t0 t2 t3) [t106,nth 13 ds,nth 14 ds] r_5.2.2).bind fun r_6=>some ((a0t 6 r_6.1),[nth 0 r_6.2.1,nth 1 r_6.2.1,nth 2 r_6.2.1],r_6.2.2)).bind fun r_7=>some (r_7.1,[nth 0 r_7.2.1,nth 1 r_7.2.1,nth 2 r_7.2.1],r_7.2.2))
  (some (.nrm,[nth 4 ds,nth 13 ds,nth 14 ds],r_5.2.2))).bind fun r_8=>a0A (a0t 1 r_8.1) ((a0h tab .add ty3 (nth 2 ds) (.int .i64 1)).bind fun t18=>some (.nrm,[nth 0 ds,nth 0 r_2.2.1,t18,nth 0 r_5.2.1,nth 0 r_8.2.1,t16,nth 1 r_2.2.1,t41,t45,t65,nth 1 r_5.2.1,nth 2 r_5.2.1,t104,nth 1 r_8.2.1,nth 2 r_8.2.1],r_8.2.2)) fun x_2=>some (x_2,[nth 0 ds,nth 0 r_2.2.1,nth 2 ds,nth 0 r_5.2.1,nth 0 r_8.2.1,t16,nth 1 r_2.2.1,t41,t45,t65,nth 1 r_5.2.1,nth 2 r_5.2.1,t104,nth 1 r_8.2.1,nth 2 r_8.2.1],r_8.2.2)) fun x_1=>a0A (a0t 1 x_1) ((a0h tab .add ty3 (nth 2 ds) (.int .i64 1)).bind fun t18_1=>some (.nrm,[nth 0 ds,nth 0 r_2.2.1,t18_1,nth 0 r_5.2.1,nth 4 ds,t16,nth 1 r_2.2.1,t41,t45,t65,nth 1 r_5.2.1,nth 2 r_5.2.1,nth 12 ds,nth 13 ds,nth 14 ds],r_5.2.2)) fun x_3=>some (x_3,[nth 0 ds,nth 0 r_2.2.1,nth 2 ds,nth 0 r_5.2.1,nth 4 ds,t16,nth 1 r_2.2.1,t41,t45,t65,nth 1 r_5.2.1,nth 2 r_5.2.1,nth 12 ds,nth 13 ds,nth 14 ds],r_5.2.2)))) fun x=>a0A (a0t 1 x) ((a0h tab .add ty3 (nth 2 ds) (.int .i64 1)).bind fun t18_2=>some (.nrm,[nth 0 ds,nth 0 r_2.2.1,t18_2,nth 3 ds,nth 4 ds,t16,nth 1 r_2.2.1,nth 7 ds,nth 8 ds,nth 9 ds,nth 10 ds,nth 11 ds,nth 12 ds,nth 13 ds,nth 14 ds],r_2.2.2)) fun x_4=>some (x_4,[nth 0 ds,nth 0 r_2.2.1,nth 2 ds,nth 3 ds,nth 4 ds,t16,nth 1 r_2.2.1,nth 7 ds,nth 8 ds,nth 9 ds,nth 10 ds,nth 11 ds,nth 12 ds,nth 13 ds,nth 14 ds],r_2.2.2))
  (some ((.ext 0),[nth 0 ds,nth 1 ds,nth 2 ds,nth 3 ds,nth 4 ds,t16,nth 6 ds,nth 7 ds,nth 8 ds,nth 9 ds,nth 10 ds,nth 11 ds,nth 12 ds,nth 13 ds,nth 14 ds],h_1))
noncomputable def b3B (t0 t1 t2 t3:D) (h:Hp):Option (D × Hp) :=
 (a0h tab .add ty3 t1 (.int .i64 1)).bind fun t14=>((a0v (a6G t0 t1 t2 t3) [.bool false,t14,.int .i64 0,.any,.any,.any,.any,.any,.any,.any,.any,.any,.any,.any,.any] h).bind fun r=>some ((a0t 0 r.1),[nth 0 r.2.1,nth 1 r.2.1,nth 2 r.2.1,nth 3 r.2.1,nth 4 r.2.1,nth 5 r.2.1,nth 6 r.2.1,nth 7 r.2.1,nth 8 r.2.1,nth 9 r.2.1,nth 10 r.2.1,nth 11 r.2.1,nth 12 r.2.1,nth 13 r.2.1,nth 14 r.2.1],r.2.2)).bind fun r_9=>a0A r_9.1 (some (a0s [.bool false],r_9.2.2)) fun x_5=>a0M x_5 (some (a0s [nth 0 r_9.2.1],r_9.2.2))
theorem b6s (t0 t1 t2 t3:D) (h:Hp):R a8M [t0,t1,t2,t3] h=b3B t0 t1 t2 t3 h :=
 er i28 (by kernel_rfl) (by kernel_rfl)
noncomputable def a9Z (t0 t1 t4:D) (ds:List D) (ds_1:List D) (h_2:Hp):Option Out :=
 (a0h tab .leq ty3 (nth 0 ds_1) (nth 1 ds)).bind fun t33=>(gd t33 true (some t4)).bind fun t35=>(gd t33 true (some t0)).bind fun t36=>(gd t33 true (some t1)).bind fun t37=>(gd t33 true (a0a tab a0m t36 t37)).bind fun t38=>(gd t33 true (a0f tab h_2 a0d t38)).bind fun t39=>(gd t33 true (some t0)).bind fun t40=>(gd t33 true (some (nth 0 ds_1))).bind fun t41=>(gd t33 true (a0a tab a0m t40 t41)).bind fun t42=>(gd t33 true (a0f tab h_2 a0d t42)).bind fun t43=>(gdW t33 true h_2 (a0W R t35 [t39,t43] h_2)).bind fun p44=>(gd t33 true (a0h tab .lss ty3 p44.1 (.int .i64 0))).bind fun t45=>(gd t33 true (dUn .not t45)).bind fun t46=>(a0S t33 t46 (.bool false)).bind fun t47=>dIf t47
  ((a0h tab .add ty3 (nth 0 ds_1) (.int .i64 1)).bind fun t49=>some (.nrm,[t49,t47],p44.2))
  (some ((.ext 2),[nth 0 ds_1,t47],p44.2))
noncomputable def b0a (t0 t1 t4:D) (r_2:Out) (ds_2:List D) (h_3:Hp):Option Out :=
 (a0h tab .leq ty3 (nth 0 r_2.2.1) (nth 0 ds_2)).bind fun t52=>(gd t52 true (some t4)).bind fun t54=>(gd t52 true (some t0)).bind fun t55=>(gd t52 true (some t1)).bind fun t56=>(gd t52 true (a0a tab a0m t55 t56)).bind fun t57=>(gd t52 true (a0f tab h_3 a0d t57)).bind fun t58=>(gd t52 true (some t0)).bind fun t59=>(gd t52 true (some (nth 0 ds_2))).bind fun t60=>(gd t52 true (a0a tab a0m t59 t60)).bind fun t61=>(gd t52 true (a0f tab h_3 a0d t61)).bind fun t62=>(gdW t52 true h_3 (a0W R t54 [t58,t62] h_3)).bind fun p63=>(gd t52 true (a0h tab .lss ty3 p63.1 (.int .i64 0))).bind fun t64=>(a0S t52 t64 (.bool false)).bind fun t65=>dIf t65
  ((a0h tab .sub ty3 (nth 0 ds_2) (.int .i64 1)).bind fun t67=>some (.nrm,[t67,t65],p63.2))
  (some ((.ext 4),[nth 0 ds_2,t65],p63.2))
noncomputable def a9Y (t0 t1 t4:D) (ds:List D) (h_1:Hp):Option Out :=
 ((a0v (a9Z t0 t1 t4 ds) [nth 0 ds,nth 2 ds] h_1).bind fun r_1=>some ((a0t 2 r_1.1),[nth 0 r_1.2.1,nth 1 r_1.2.1],r_1.2.2)).bind fun r_2=>a0A r_2.1 (((a0v (b0a t0 t1 t4 r_2) [nth 1 ds,nth 3 ds] r_2.2.2).bind fun r_3=>some ((a0t 4 r_3.1),[nth 0 r_3.2.1,nth 1 r_3.2.1],r_3.2.2)).bind fun r_4=>a0A r_4.1 ((a0h tab .gtr ty3 (nth 0 r_2.2.1) (nth 0 r_4.2.1)).bind fun t70=>dIf t70
  (some ((.ext 0),[nth 0 r_2.2.1,nth 0 r_4.2.1,nth 1 r_2.2.1,nth 1 r_4.2.1,t70],r_4.2.2))
  ((a0a tab a0m t0 (nth 0 r_4.2.1)).bind fun t77=>(a0f tab r_4.2.2 a0d t77).bind fun t78=>(a0a tab a0m t0 (nth 0 r_2.2.1)).bind fun t81=>(a0f tab r_4.2.2 a0d t81).bind fun t82=>(a0a tab a0m t0 (nth 0 r_2.2.1)).bind fun t83=>((a0q tab r_4.2.2 a0d t83 t78).bind fun h'=>some ((.und:D),h')).bind fun p913_1=>(a0a tab a0m t0 (nth 0 r_4.2.1)).bind fun t84=>((a0q tab p913_1.2 a0d t84 t82).bind fun h'=>some ((.und:D),h')).bind fun p915_1=>(a0h tab .add ty3 (nth 0 r_2.2.1) (.int .i64 1)).bind fun t86=>(a0h tab .sub ty3 (nth 0 r_4.2.1) (.int .i64 1)).bind fun t88=>some (.nrm,[t86,t88,nth 1 r_2.2.1,nth 1 r_4.2.1,t70],p915_1.2))) fun x_1=>some ((a0t 1 x_1),[nth 0 r_2.2.1,nth 0 r_4.2.1,nth 1 r_2.2.1,nth 1 r_4.2.1,nth 4 ds],r_4.2.2)) fun x=>some ((a0t 1 x),[nth 0 r_2.2.1,nth 1 ds,nth 1 r_2.2.1,nth 3 ds,nth 4 ds],r_2.2.2)
noncomputable def b5P (t0 t1 t2 t3 t4:D) (h:Hp):Option (D × Hp) :=
 (a0a tab a0m t0 t3).bind fun t19=>(a0f tab h a0d t19).bind fun t20=>(a0a tab a0m t0 t1).bind fun t23=>(a0f tab h a0d t23).bind fun t24=>(a0a tab a0m t0 t1).bind fun t25=>((a0q tab h a0d t25 t20).bind fun h'=>some ((.und:D),h')).bind fun p913=>(a0a tab a0m t0 t3).bind fun t26=>((a0q tab p913.2 a0d t26 t24).bind fun h'=>some ((.und:D),h')).bind fun p915=>(a0h tab .add ty3 t1 (.int .i64 1)).bind fun t28=>(a0h tab .sub ty3 t2 (.int .i64 1)).bind fun t30=>((a0v (a9Y t0 t1 t4) [t28,t30,.any,.any,.any] p915.2).bind fun r=>some ((a0t 0 r.1),[nth 0 r.2.1,nth 1 r.2.1,nth 2 r.2.1,nth 3 r.2.1,nth 4 r.2.1],r.2.2)).bind fun r_5=>a0A r_5.1 (some (a0s [nth 0 r_5.2.1],r_5.2.2)) fun x_2=>a0M x_2 (some (a0s [.int .i64 0],r_5.2.2))
theorem b8f (t0 t1 t2 t3 t4:D) (h:Hp):R b1l [t0,t1,t2,t3,t4] h=b5P t0 t1 t2 t3 t4 h :=
 er i29 (by kernel_rfl) (by kernel_rfl)
noncomputable def a4x (t0 t1 t4 t13m:D) (ds:List D) (h_1:Hp):Option Out :=
 (a0h tab .leq ty3 (nth 0 ds) t13m).bind fun t34=>(gd t34 true (some t4)).bind fun t36=>(gd t34 true (some t0)).bind fun t37=>(gd t34 true (some (nth 0 ds))).bind fun t38=>(gd t34 true (a0a tab a0m t37 t38)).bind fun t39=>(gd t34 true (a0f tab h_1 a0d t39)).bind fun t40=>(gd t34 true (some t0)).bind fun t41=>(gd t34 true (some t1)).bind fun t42=>(gd t34 true (a0a tab a0m t41 t42)).bind fun t43=>(gd t34 true (a0f tab h_1 a0d t43)).bind fun t44=>(gdW t34 true h_1 (a0W R t36 [t40,t44] h_1)).bind fun p45=>(gd t34 true (a0h tab .lss ty3 p45.1 (.int .i64 0))).bind fun t46=>(a0S t34 t46 (.bool false)).bind fun t47=>dIf t47
  ((a0h tab .add ty3 (nth 0 ds) (.int .i64 1)).bind fun t49=>some (.nrm,[t49,t47],p45.2))
  (some ((.ext 0),[nth 0 ds,t47],p45.2))
noncomputable def a4y (t0 t1 t4:D) (r_1:Out) (ds_1:List D) (h_2:Hp):Option Out :=
 (a0h tab .leq ty3 (nth 0 r_1.2.1) (nth 0 ds_1)).bind fun t52=>(gd t52 true (some t4)).bind fun t54=>(gd t52 true (some t0)).bind fun t55=>(gd t52 true (some (nth 0 ds_1))).bind fun t56=>(gd t52 true (a0a tab a0m t55 t56)).bind fun t57=>(gd t52 true (a0f tab h_2 a0d t57)).bind fun t58=>(gd t52 true (some t0)).bind fun t59=>(gd t52 true (some t1)).bind fun t60=>(gd t52 true (a0a tab a0m t59 t60)).bind fun t61=>(gd t52 true (a0f tab h_2 a0d t61)).bind fun t62=>(gdW t52 true h_2 (a0W R t54 [t58,t62] h_2)).bind fun p63=>(gd t52 true (a0h tab .lss ty3 p63.1 (.int .i64 0))).bind fun t64=>(gd t52 true (dUn .not t64)).bind fun t65=>(a0S t52 t65 (.bool false)).bind fun t66=>dIf t66
  ((a0h tab .sub ty3 (nth 0 ds_1) (.int .i64 1)).bind fun t68=>some (.nrm,[t68,t66],p63.2))
  (some ((.ext 2),[nth 0 ds_1,t66],p63.2))
noncomputable def a4z (t0 t1 t4:D) (ds_2:List D) (ds_3:List D) (h_4:Hp):Option Out :=
 (a0h tab .leq ty3 (nth 0 ds_3) (nth 1 ds_2)).bind fun t107=>(gd t107 true (some t4)).bind fun t109=>(gd t107 true (some t0)).bind fun t110=>(gd t107 true (some (nth 0 ds_3))).bind fun t111=>(gd t107 true (a0a tab a0m t110 t111)).bind fun t112=>(gd t107 true (a0f tab h_4 a0d t112)).bind fun t113=>(gd t107 true (some t0)).bind fun t114=>(gd t107 true (some t1)).bind fun t115=>(gd t107 true (a0a tab a0m t114 t115)).bind fun t116=>(gd t107 true (a0f tab h_4 a0d t116)).bind fun t117=>(gdW t107 true h_4 (a0W R t109 [t113,t117] h_4)).bind fun p118=>(gd t107 true (a0h tab .lss ty3 p118.1 (.int .i64 0))).bind fun t119=>(a0S t107 t119 (.bool false)).bind fun t120=>dIf t120
  ((a0h tab .add ty3 (nth 0 ds_3) (.int .i64 1)).bind fun t122=>some (.nrm,[t122,t120],p118.2))
  (some ((.ext 6),[nth 0 ds_3,t120],p118.2))
noncomputable def a4A (t0 t1 t4:D) (r_6:Out) (ds_4:List D) (h_5:Hp):Option Out :=
 (a0h tab .leq ty3 (nth 0 r_6.2.1) (nth 0 ds_4)).bind fun t125=>(gd t125 true (some t4)).bind fun t127=>(gd t125 true (some t0)).bind fun t128=>(gd t125 true (some (nth 0 ds_4))).bind fun t129=>(gd t125 true (a0a tab a0m t128 t129)).bind fun t130=>(gd t125 true (a0f tab h_5 a0d t130)).bind fun t131=>(gd t125 true (some t0)).bind fun t132=>(gd t125 true (some t1)).bind fun t133=>(gd t125 true (a0a tab a0m t132 t133)).bind fun t134=>(gd t125 true (a0f tab h_5 a0d t134)).bind fun t135=>(gdW t125 true h_5 (a0W R t127 [t131,t135] h_5)).bind fun p136=>(gd t125 true (a0h tab .lss ty3 p136.1 (.int .i64 0))).bind fun t137=>(gd t125 true (dUn .not t137)).bind fun t138=>(a0S t125 t138 (.bool false)).bind fun t139=>dIf t139
  ((a0h tab .sub ty3 (nth 0 ds_4) (.int .i64 1)).bind fun t141=>some (.nrm,[t141,t139],p136.2))
  (some ((.ext 8),[nth 0 ds_4,t139],p136.2))
noncomputable def a6H (t0 t1 t4:D) (ds_2:List D) (h_3:Hp):Option Out :=
 ((a0v (a4z t0 t1 t4 ds_2) [nth 0 ds_2,nth 2 ds_2] h_3).bind fun r_5=>some ((a0t 6 r_5.1),[nth 0 r_5.2.1,nth 1 r_5.2.1],r_5.2.2)).bind fun r_6=>a0A r_6.1 (((a0v (a4A t0 t1 t4 r_6) [nth 1 ds_2,nth 3 ds_2] r_6.2.2).bind fun r_7=>some ((a0t 8 r_7.1),[nth 0 r_7.2.1,nth 1 r_7.2.1],r_7.2.2)).bind fun r_8=>a0A r_8.1 ((a0h tab .gtr ty3 (nth 0 r_6.2.1) (nth 0 r_8.2.1)).bind fun t144=>dIf t144
  (some ((.ext 4),[nth 0 r_6.2.1,nth 0 r_8.2.1,nth 1 r_6.2.1,nth 1 r_8.2.1,t144],r_8.2.2))
  ((a0a tab a0m t0 (nth 0 r_8.2.1)).bind fun t151=>(a0f tab r_8.2.2 a0d t151).bind fun t152=>(a0a tab a0m t0 (nth 0 r_6.2.1)).bind fun t155=>(a0f tab r_8.2.2 a0d t155).bind fun t156=>(a0a tab a0m t0 (nth 0 r_6.2.1)).bind fun t157=>((a0q tab r_8.2.2 a0d t157 t152).bind fun h'=>some ((.und:D),h')).bind fun p913_3=>(a0a tab a0m t0 (nth 0 r_8.2.1)).bind fun t158=>((a0q tab p913_3.2 a0d t158 t156).bind fun h'=>some ((.und:D),h')).bind fun p915_3=>(a0h tab .add ty3 (nth 0 r_6.2.1) (.int .i64 1)).bind fun t160=>(a0h tab .sub ty3 (nth 0 r_8.2.1) (.int .i64 1)).bind fun t162=>some (.nrm,[t160,t162,nth 1 r_6.2.1,nth 1 r_8.2.1,t144],p915_3.2))) fun x_3=>some ((a0t 5 x_3),[nth 0 r_6.2.1,nth 0 r_8.2.1,nth 1 r_6.2.1,nth 1 r_8.2.1,nth 4 ds_2],r_8.2.2)) fun x_2=>some ((a0t 5 x_2),[nth 0 r_6.2.1,nth 1 ds_2,nth 1 r_6.2.1,nth 3 ds_2,nth 4 ds_2],r_6.2.2)
noncomputable def b3C (t0 t1 t2 t3 t4:D) (h:Hp):Option (D × Hp) :=
 (a0a tab a0m t0 t3).bind fun t20=>(a0f tab h a0d t20).bind fun t21=>(a0a tab a0m t0 t1).bind fun t24=>(a0f tab h a0d t24).bind fun t25=>(a0a tab a0m t0 t1).bind fun t26=>((a0q tab h a0d t26 t21).bind fun h'=>some ((.und:D),h')).bind fun p913=>(a0a tab a0m t0 t3).bind fun t27=>((a0q tab p913.2 a0d t27 t25).bind fun h'=>some ((.und:D),h')).bind fun p915=>(a0h tab .add ty3 t1 (.int .i64 1)).bind fun t29=>(a0h tab .sub ty3 t2 (.int .i64 1)).bind fun t31=>((a0v (a4x t0 t1 t4 t31) [t29,.any] p915.2).bind fun r=>some ((a0t 0 r.1),[nth 0 r.2.1,nth 1 r.2.1],r.2.2)).bind fun r_1=>a0A r_1.1 (((a0v (a4y t0 t1 t4 r_1) [t31,.any] r_1.2.2).bind fun r_2=>some ((a0t 2 r_2.1),[nth 0 r_2.2.1,nth 1 r_2.2.1],r_2.2.2)).bind fun r_3=>a0A r_3.1 ((a0h tab .gtr ty3 (nth 0 r_1.2.1) (nth 0 r_3.2.1)).bind fun t71=>dIf t71
  ((a0a tab a0m t0 t1).bind fun t78=>(a0f tab r_3.2.2 a0d t78).bind fun t79=>(a0a tab a0m t0 (nth 0 r_3.2.1)).bind fun t82=>(a0f tab r_3.2.2 a0d t82).bind fun t83=>(a0a tab a0m t0 (nth 0 r_3.2.1)).bind fun t84=>((a0q tab r_3.2.2 a0d t84 t79).bind fun h'=>some ((.und:D),h')).bind fun p913_1=>(a0a tab a0m t0 t1).bind fun t85=>((a0q tab p913_1.2 a0d t85 t83).bind fun h'=>some ((.und:D),h')).bind fun p915_1=>some (a0s [nth 0 r_3.2.1,.bool true],p915_1.2))
  ((a0a tab a0m t0 (nth 0 r_3.2.1)).bind fun t93=>(a0f tab r_3.2.2 a0d t93).bind fun t94=>(a0a tab a0m t0 (nth 0 r_1.2.1)).bind fun t97=>(a0f tab r_3.2.2 a0d t97).bind fun t98=>(a0a tab a0m t0 (nth 0 r_1.2.1)).bind fun t99=>((a0q tab r_3.2.2 a0d t99 t94).bind fun h'=>some ((.und:D),h')).bind fun p913_2=>(a0a tab a0m t0 (nth 0 r_3.2.1)).bind fun t100=>((a0q tab p913_2.2 a0d t100 t98).bind fun h'=>some ((.und:D),h')).bind fun p915_2=>(a0h tab .add ty3 (nth 0 r_1.2.1) (.int .i64 1)).bind fun t102=>(a0h tab .sub ty3 (nth 0 r_3.2.1) (.int .i64 1)).bind fun t104=>((a0v (a6H t0 t1 t4) [t102,t104,.any,.any,.any] p915_2.2).bind fun r_4=>some ((a0t 4 r_4.1),[nth 0 r_4.2.1,nth 1 r_4.2.1,nth 2 r_4.2.1,nth 3 r_4.2.1,nth 4 r_4.2.1],r_4.2.2)).bind fun r_9=>a0A r_9.1 ((a0a tab a0m t0 t1).bind fun t169=>(a0f tab r_9.2.2 a0d t169).bind fun t170=>(a0a tab a0m t0 (nth 1 r_9.2.1)).bind fun t173=>(a0f tab r_9.2.2 a0d t173).bind fun t174=>(a0a tab a0m t0 (nth 1 r_9.2.1)).bind fun t175=>((a0q tab r_9.2.2 a0d t175 t170).bind fun h'=>some ((.und:D),h')).bind fun p913_4=>(a0a tab a0m t0 t1).bind fun t176=>((a0q tab p913_4.2 a0d t176 t174).bind fun h'=>some ((.und:D),h')).bind fun p915_4=>some (a0s [nth 1 r_9.2.1,.bool false],p915_4.2)) fun x_4=>a0M x_4 (some (a0s [.int .i64 0,.bool false],r_9.2.2)))) fun x_1=>a0M x_1 (some (a0s [.int .i64 0,.bool false],r_3.2.2))) fun x=>a0M x (some (a0s [.int .i64 0,.bool false],r_1.2.2))
theorem b6t (t0 t1 t2 t3 t4:D) (h:Hp):R a8N [t0,t1,t2,t3,t4] h=b3C t0 t1 t2 t3 t4 h :=
 er i30 (by kernel_rfl) (by kernel_rfl)
noncomputable def b5Q (t0:D) (h:Hp):Option (D × Hp) :=
 (a0h tab .geq b3n t0 (.int .u32 65536)).bind fun t4=>(dIf t4
  ((a0h tab .shr b3n t0 (.int .u64 16)).bind fun t6=>some (.nrm,[t6,.int .i64 16],h))
  (some (.nrm,[t0,.int .i64 0],h))).bind fun r=>a0A r.1 ((a0h tab .geq b3n (nth 0 r.2.1) (.int .u32 256)).bind fun t8=>(dIf t8
  ((a0h tab .shr b3n (nth 0 r.2.1) (.int .u64 8)).bind fun t10=>(a0h tab .add ty3 (nth 1 r.2.1) (.int .i64 8)).bind fun t12=>some (.nrm,[t10,t12],r.2.2))
  (some (.nrm,[nth 0 r.2.1,nth 1 r.2.1],r.2.2))).bind fun r_1=>a0A r_1.1 ((a1J tab b3n ty5 (nth 0 r_1.2.1)).bind fun t15=>(a3U tab ty9 (.str [0,1,2,2,3,3,3,3,4,4,4,4,4,4,4,4,5,5,5,5,5,5,5,5,5,5,5,5,5,5,5,5,6,6,6,6,6,6,6,6,6,6,6,6,6,6,6,6,6,6,6,6,6,6,6,6,6,6,6,6,6,6,6,6,7,7,7,7,7,7,7,7,7,7,7,7,7,7,7,7,7,7,7,7,7,7,7,7,7,7,7,7,7,7,7,7,7,7,7,7,7,7,7,7,7,7,7,7,7,7,7,7,7,7,7,7,7,7,7,7,7,7,7,7,7,7,7,7,8,8,8,8,8,8,8,8,8,8,8,8,8,8,8,8,8,8,8,8,8,8,8,8,8,8,8,8,8,8,8,8,8,8,8,8,8,8,8,8,8,8,8,8,8,8,8,8,8,8,8,8,8,8,8,8,8,8,8,8,8,8,8,8,8,8,8,8,8,8,8,8,8,8,8,8,8,8,8,8,8,8,8,8,8,8,8,8,8,8,8,8,8,8,8,8,8,8,8,8,8,8,8,8,8,8,8,8,8,8,8,8,8,8,8,8,8,8,8,8,8,8,8,8,8,8,8,8]) t15).bind fun t16=>(a1J tab ty5 ty3 t16).bind fun t17=>(a0h tab .add ty3 (nth 1 r_1.2.1) t17).bind fun t18=>some (a0s [t18],r_1.2.2)) fun x_1=>a0M x_1 (some (a0s [nth 1 r_1.2.1],r_1.2.2))) fun x=>a0M x (some (a0s [nth 1 r.2.1],r.2.2))
theorem b8g (t0:D) (h:Hp):R b1m [t0] h=b5Q t0 h :=
 er i31 (by kernel_rfl) (by kernel_rfl)
noncomputable def b1J (t0:D) (h:Hp):Option (D × Hp) :=
 (a0h tab .geq a3f t0 (.int .u64 4294967296)).bind fun t4=>(dIf t4
  ((a0h tab .shr a3f t0 (.int .u64 32)).bind fun t6=>some (.nrm,[t6,.int .i64 32],h))
  (some (.nrm,[t0,.int .i64 0],h))).bind fun r=>a0A r.1 ((a0h tab .geq a3f (nth 0 r.2.1) (.int .u64 65536)).bind fun t8=>(dIf t8
  ((a0h tab .shr a3f (nth 0 r.2.1) (.int .u64 16)).bind fun t10=>(a0h tab .add ty3 (nth 1 r.2.1) (.int .i64 16)).bind fun t12=>some (.nrm,[t10,t12],r.2.2))
  (some (.nrm,[nth 0 r.2.1,nth 1 r.2.1],r.2.2))).bind fun r_1=>a0A r_1.1 ((a0h tab .geq a3f (nth 0 r_1.2.1) (.int .u64 256)).bind fun t14=>(dIf t14
  ((a0h tab .shr a3f (nth 0 r_1.2.1) (.int .u64 8)).bind fun t16=>(a0h tab .add ty3 (nth 1 r_1.2.1) (.int .i64 8)).bind fun t18=>some (.nrm,[t16,t18],r_1.2.2))
  (some (.nrm,[nth 0 r_1.2.1,nth 1 r_1.2.1],r_1.2.2))).bind fun r_2=>a0A r_2.1 ((a1J tab a3f ty5 (nth 0 r_2.2.1)).bind fun t21=>(a3U tab ty9 (.str [0,1,2,2,3,3,3,3,4,4,4,4,4,4,4,4,5,5,5,5,5,5,5,5,5,5,5,5,5,5,5,5,6,6,6,6,6,6,6,6,6,6,6,6,6,6,6,6,6,6,6,6,6,6,6,6,6,6,6,6,6,6,6,6,7,7,7,7,7,7,7,7,7,7,7,7,7,7,7,7,7,7,7,7,7,7,7,7,7,7,7,7,7,7,7,7,7,7,7,7,7,7,7,7,7,7,7,7,7,7,7,7,7,7,7,7,7,7,7,7,7,7,7,7,7,7,7,7,8,8,8,8,8,8,8,8,8,8,8,8,8,8,8,8,8,8,8,8,8,8,8,8,8,8,8,8,8,8,8,8,8,8,8,8,8,8,8,8,8,8,8,8,8,8,8,8,8,8,8,8,8,8,8,8,8,8,8,8,8,8,8,8,8,8,8,8,8,8,8,8,8,8,8,8,8,8,8,8,8,8,8,8,8,8,8,8,8,8,8,8,8,8,8,8,8,8,8,8,8,8,8,8,8,8,8,8,8,8,8,8,8,8,8,8,8,8,8,8,8,8,8,8,8,8,8,8]) t21).bind fun t22=>(a1J tab ty5 ty3 t22).bind fun t23=>(a0h tab .add ty3 (nth 1 r_2.2.1) t23).bind fun t24=>some (a0s [t24],r_2.2.2)) fun x_2=>a0M x_2 (some (a0s [nth 1 r_2.2.1],r_2.2.2))) fun x_1=>a0M x_1 (some (a0s [nth 1 r_1.2.1],r_1.2.2))) fun x=>a0M x (some (a0s [nth 1 r.2.1],r.2.2))
theorem b4e (t0:D) (h:Hp):R a8H [t0] h=b1J t0 h :=
 er i32 (by kernel_rfl) (by kernel_rfl)
noncomputable def a5q (t1 t8m t9:D) (ds:List D) (h_1:Hp):Option Out :=
 (a0h tab .lss ty3 (nth 3 ds) t9).bind fun t11=>dIf t11
  ((a0a tab b2Q t8m (nth 3 ds)).bind fun t12=>(a0f tab h_1 a7V t12).bind fun t13=>(a8f 2 t13).bind fun t7=>(a0e tab a7V 0 t7).bind fun t14=>(a0f tab h_1 ty9 t14).bind fun t15=>(a0h tab .eql ty9 t15 t1).bind fun t17=>dIf t17
  ((a0e tab a7V 1 t7).bind fun t18=>(a0f tab h_1 ty9 t18).bind fun t19=>some (.ret,[t19,.bool true,t7,nth 3 ds,t11,t17],h_1))
  ((a0h tab .add ty3 (nth 3 ds) (.int .i64 1)).bind fun t20=>some (.nrm,[nth 0 ds,nth 1 ds,t7,t20,t11,t17],h_1)))
  (some ((.ext 0),[nth 0 ds,nth 1 ds,nth 2 ds,nth 3 ds,t11,nth 5 ds],h_1))
noncomputable def F70 (t0 t1:D) (h:Hp):Option (D × Hp) :=
 (a0X tab b2Q t0).bind fun t9=>((a0v (a5q t1 t0 t9) [.str [],.bool false,.any,.int .i64 0,.any,.any] h).bind fun r=>some ((a0t 0 r.1),[nth 0 r.2.1,nth 1 r.2.1,nth 2 r.2.1,nth 3 r.2.1,nth 4 r.2.1,nth 5 r.2.1],r.2.2)).bind fun r_1=>a0A r_1.1 (some (a0s [.str [],.bool false],r_1.2.2)) fun x=>a0M x (some (a0s [nth 0 r_1.2.1,nth 1 r_1.2.1],r_1.2.2))
theorem e70 (t0 t1:D) (h:Hp):R b6N [t0,t1] h=F70 t0 t1 h :=
 er i40 (by kernel_rfl) (by kernel_rfl)
noncomputable def a4C (t0 t1 t3:D) (ds_1:List D) (h_2:Hp):Option Out :=
 (a0h tab .gtr ty3 (nth 0 ds_1) t1).bind fun t20=>(gd t20 true (some t3)).bind fun t22=>(gd t20 true (some t0)).bind fun t23=>(gd t20 true (some (nth 0 ds_1))).bind fun t24=>(gd t20 true (a0a tab a0j t23 t24)).bind fun t25=>(gd t20 true (a0f tab h_2 a0c t25)).bind fun t26=>(gd t20 true (some t0)).bind fun t27=>(gd t20 true (some (nth 0 ds_1))).bind fun t28=>(gd t20 true (a0h tab .sub ty3 t28 (.int .i64 1))).bind fun t29=>(gd t20 true (a0a tab a0j t27 t29)).bind fun t30=>(gd t20 true (a0f tab h_2 a0c t30)).bind fun t31=>(gdW t20 true h_2 (a0W R t22 [t26,t31] h_2)).bind fun p32=>(gd t20 true (a0h tab .lss ty3 p32.1 (.int .i64 0))).bind fun t33=>(a0S t20 t33 (.bool false)).bind fun t34=>dIf t34
  ((a0h tab .sub ty3 (nth 0 ds_1) (.int .i64 1)).bind fun t41=>(a0h tab .sub ty3 (nth 0 ds_1) (.int .i64 1)).bind fun t44=>(a0a tab a0j t0 t44).bind fun t45=>(a0f tab p32.2 a0c t45).bind fun t46=>(a0a tab a0j t0 (nth 0 ds_1)).bind fun t49=>(a0f tab p32.2 a0c t49).bind fun t50=>(a0a tab a0j t0 (nth 0 ds_1)).bind fun t51=>((a0q tab p32.2 a0c t51 t46).bind fun h'=>some ((.und:D),h')).bind fun p915=>(a0a tab a0j t0 t41).bind fun t52=>((a0q tab p915.2 a0c t52 t50).bind fun h'=>some ((.und:D),h')).bind fun p917=>(a0h tab .sub ty3 (nth 0 ds_1) (.int .i64 1)).bind fun t36=>some (.nrm,[t36,t34],p917.2))
  (some ((.ext 2),[nth 0 ds_1,t34],p32.2))
noncomputable def a4B (t0 t1 t2 t3:D) (ds:List D) (h_1:Hp):Option Out :=
 (a0h tab .lss ty3 (nth 0 ds) t2).bind fun t14=>dIf t14
  (((a0v (a4C t0 t1 t3) [nth 0 ds,nth 3 ds] h_1).bind fun r_1=>some ((a0t 2 r_1.1),[nth 0 r_1.2.1,nth 1 r_1.2.1],r_1.2.2)).bind fun r_2=>a0A (a0t 1 r_2.1) ((a0h tab .add ty3 (nth 0 ds) (.int .i64 1)).bind fun t16=>some (.nrm,[t16,nth 0 r_2.2.1,t14,nth 1 r_2.2.1],r_2.2.2)) fun x=>some (x,[nth 0 ds,nth 0 r_2.2.1,t14,nth 1 r_2.2.1],r_2.2.2))
  (some ((.ext 0),[nth 0 ds,nth 1 ds,t14,nth 3 ds],h_1))
noncomputable def b1P (t0 t1 t2 t3:D) (h:Hp):Option (D × Hp) :=
 (a0h tab .add ty3 t1 (.int .i64 1)).bind fun t11=>((a0v (a4B t0 t1 t2 t3) [t11,.any,.any,.any] h).bind fun r=>some ((a0t 0 r.1),[nth 0 r.2.1,nth 1 r.2.1,nth 2 r.2.1,nth 3 r.2.1],r.2.2)).bind fun r_3=>a0M r_3.1 (some (a0s [],r_3.2.2))
theorem b4k (t0 t1 t2 t3:D) (h:Hp):R a3z [t0,t1,t2,t3] h=b1P t0 t1 t2 t3 h :=
 er i41 (by kernel_rfl) (by kernel_rfl)
noncomputable def a6I (t0 t3 t8m t10m:D) (ds:List D) (h_1:Hp):Option Out :=
 (a0h tab .geq ty3 (nth 0 ds) (.int .i64 0)).bind fun t21=>dIf t21
  ((R a7m [t0,nth 0 ds,t10m,t8m,t3] h_1).bind fun p29=>(a0h tab .sub ty3 (nth 0 ds) (.int .i64 1)).bind fun t23=>some (.nrm,[t23,t21],p29.2))
  (some ((.ext 0),[nth 0 ds,t21],h_1))
noncomputable def a6J (t0 t3 t8m t9m:D) (ds_1:List D) (h_2:Hp):Option Out :=
 (a0h tab .geq ty3 (nth 0 ds_1) (.int .i64 0)).bind fun t33=>dIf t33
  ((a0h tab .add ty3 t8m (nth 0 ds_1)).bind fun t41=>(a0h tab .add ty3 t8m (nth 0 ds_1)).bind fun t45=>(a0a tab a0j t0 t45).bind fun t46=>(a0f tab h_2 a0c t46).bind fun t47=>(a0a tab a0j t0 t8m).bind fun t50=>(a0f tab h_2 a0c t50).bind fun t51=>(a0a tab a0j t0 t8m).bind fun t52=>((a0q tab h_2 a0c t52 t47).bind fun h'=>some ((.und:D),h')).bind fun p917=>(a0a tab a0j t0 t41).bind fun t53=>((a0q tab p917.2 a0c t53 t51).bind fun h'=>some ((.und:D),h')).bind fun p919=>(R a7m [t0,t9m,nth 0 ds_1,t8m,t3] p919.2).bind fun p59=>(a0h tab .sub ty3 (nth 0 ds_1) (.int .i64 1)).bind fun t35=>some (.nrm,[t35,t33],p59.2))
  (some ((.ext 2),[nth 0 ds_1,t33],h_2))
noncomputable def b3D (t0 t1 t2 t3:D) (h:Hp):Option (D × Hp) :=
 (a0h tab .sub ty3 t2 t1).bind fun t16=>(a0h tab .sub ty3 t16 (.int .i64 1)).bind fun t18=>(a0h tab .quo ty3 t18 (.int .i64 2)).bind fun t19=>((a0v (a6I t0 t3 t1 t16) [t19,.any] h).bind fun r=>some ((a0t 0 r.1),[nth 0 r.2.1,nth 1 r.2.1],r.2.2)).bind fun r_1=>a0A r_1.1 ((a0h tab .sub ty3 t16 (.int .i64 1)).bind fun t31=>((a0v (a6J t0 t3 t1 (.int .i64 0)) [t31,.any] r_1.2.2).bind fun r_2=>some ((a0t 2 r_2.1),[nth 0 r_2.2.1,nth 1 r_2.2.1],r_2.2.2)).bind fun r_3=>a0M r_3.1 (some (a0s [],r_3.2.2))) fun x=>a0M x (some (a0s [],r_1.2.2))
theorem b6u (t0 t1 t2 t3:D) (h:Hp):R a8O [t0,t1,t2,t3] h=b3D t0 t1 t2 t3 h :=
 er i42 (by kernel_rfl) (by kernel_rfl)
noncomputable def a6K (t0 t1 t8m:D) (p9:D × Hp) (t10m:D) (ds:List D) (h_1:Hp):Option Out :=
 (a0h tab .quo ty3 t8m (.int .i64 4)).bind fun t31=>(a0h tab .mul ty3 t31 (.int .i64 2)).bind fun t32=>(a0h tab .add ty3 t1 t32).bind fun t33=>(a0h tab .add ty3 t33 (.int .i64 1)).bind fun t34=>(a0h tab .leq ty3 (nth 0 ds) t34).bind fun t35=>dIf t35
  ((R a7k [p9.1] h_1).bind fun p38=>(a0h tab .sub a2Z t10m (.int .u64 1)).bind fun t40=>(a0h tab .and a2Z p38.1 t40).bind fun t41=>(a1J tab a2Z ty3 t41).bind fun t42=>(a0h tab .geq ty3 t42 t8m).bind fun t45=>(dIf t45
  ((a0h tab .sub ty3 t42 t8m).bind fun t48=>some (.nrm,[t48],p38.2))
  (some (.nrm,[t42],p38.2))).bind fun r_1=>a0A r_1.1 ((a0h tab .add ty3 t1 (nth 0 r_1.2.1)).bind fun t54=>(a0h tab .add ty3 t1 (nth 0 r_1.2.1)).bind fun t58=>(a0a tab a0j t0 t58).bind fun t59=>(a0f tab r_1.2.2 a0c t59).bind fun t60=>(a0a tab a0j t0 (nth 0 ds)).bind fun t63=>(a0f tab r_1.2.2 a0c t63).bind fun t64=>(a0a tab a0j t0 (nth 0 ds)).bind fun t65=>((a0q tab r_1.2.2 a0c t65 t60).bind fun h'=>some ((.und:D),h')).bind fun p917=>(a0a tab a0j t0 t54).bind fun t66=>((a0q tab p917.2 a0c t66 t64).bind fun h'=>some ((.und:D),h')).bind fun p919=>(a0h tab .add ty3 (nth 0 ds) (.int .i64 1)).bind fun t37=>some (.nrm,[t37,nth 0 r_1.2.1,t35,t45],p919.2)) fun x=>a0A (a0t 1 x) ((a0h tab .add ty3 (nth 0 ds) (.int .i64 1)).bind fun t37_1=>some (.nrm,[t37_1,nth 0 r_1.2.1,t35,t45],r_1.2.2)) fun x_1=>some (x_1,[nth 0 ds,nth 0 r_1.2.1,t35,t45],r_1.2.2))
  (some ((.ext 0),[nth 0 ds,nth 1 ds,t35,nth 3 ds],h_1))
noncomputable def b3E (t0 t1 t2 t3:D) (h:Hp):Option (D × Hp) :=
 (a0h tab .sub ty3 t2 t1).bind fun t15=>(a0h tab .geq ty3 t15 (.int .i64 8)).bind fun t17=>(dIf t17
  ((a1J tab ty3 a0B t15).bind fun t19=>(some ((.ptr h.length 0 0:D),a1p h a0B 1 [[.int .u64 0]])).bind fun p9=>((a0q tab p9.2 a0B p9.1 t19).bind fun h'=>some ((.und:D),h')).bind fun p903=>(R a7j [t15] p903.2).bind fun p21=>(a0h tab .quo ty3 t15 (.int .i64 4)).bind fun t24=>(a0h tab .mul ty3 t24 (.int .i64 2)).bind fun t25=>(a0h tab .add ty3 t1 t25).bind fun t26=>(a0h tab .sub ty3 t26 (.int .i64 1)).bind fun t27=>((a0v (a6K t0 t1 t15 p9 p21.1) [t27,.any,.any,.any] p21.2).bind fun r=>some ((a0t 0 r.1),[nth 0 r.2.1,nth 1 r.2.1,nth 2 r.2.1,nth 3 r.2.1],r.2.2)).bind fun r_2=>some (r_2.1,[p9.1,p21.1,nth 0 r_2.2.1,nth 1 r_2.2.1,nth 2 r_2.2.1,nth 3 r_2.2.1],r_2.2.2))
  (some (.nrm,[.any,.any,.any,.any,.any,.any],h))).bind fun r_3=>a0M r_3.1 (scope h r_3.2.2 (a0s []))
theorem b6v (t0 t1 t2 t3:D) (h:Hp):R a8P [t0,t1,t2,t3] h=b3E t0 t1 t2 t3 h :=
 er i43 (by kernel_rfl) (by kernel_rfl)
noncomputable def b3F (t0 t1 t2 t3:D) (h:Hp):Option (D × Hp) :=
 (a0h tab .sub ty3 t2 t1).bind fun t17=>(some ((.ptr h.length 0 0:D),a1p h ty3 1 [[.int .i64 0]])).bind fun p11=>(a0h tab .quo ty3 t17 (.int .i64 4)).bind fun t20=>(a0h tab .mul ty3 t20 (.int .i64 1)).bind fun t21=>(a0h tab .add ty3 t1 t21).bind fun t22=>(a0h tab .quo ty3 t17 (.int .i64 4)).bind fun t25=>(a0h tab .mul ty3 t25 (.int .i64 2)).bind fun t26=>(a0h tab .add ty3 t1 t26).bind fun t27=>(a0h tab .quo ty3 t17 (.int .i64 4)).bind fun t30=>(a0h tab .mul ty3 t30 (.int .i64 3)).bind fun t31=>(a0h tab .add ty3 t1 t31).bind fun t32=>(a0h tab .geq ty3 t17 (.int .i64 8)).bind fun t34=>(dIf t34
  ((a0h tab .geq ty3 t17 (.int .i64 50)).bind fun t36=>(dIf t36
  ((R a5L [t0,t22,p11.1,t3] p11.2).bind fun p40=>(R a5L [t0,t27,p11.1,t3] p40.2).bind fun p44=>(R a5L [t0,t32,p11.1,t3] p44.2).bind fun p48=>some (.nrm,[p40.1,p44.1,p48.1],p48.2))
  (some (.nrm,[t22,t27,t32],p11.2))).bind fun r=>a0A r.1 ((R a7n [t0,nth 0 r.2.1,nth 1 r.2.1,nth 2 r.2.1,p11.1,t3] r.2.2).bind fun p54=>some (.nrm,[nth 0 r.2.1,p54.1,nth 2 r.2.1,t36],p54.2)) fun x=>some (x,[nth 0 r.2.1,nth 1 r.2.1,nth 2 r.2.1,t36],r.2.2))
  (some (.nrm,[t22,t27,t32,.any],p11.2))).bind fun r_1=>a0A r_1.1 ((a0f tab r_1.2.2 ty3 p11.1).bind fun t55=>(a0h tab .eql ty3 t55 (.int .i64 0)).bind fun t58=>dIf t58
  (scope h r_1.2.2 (a0s [nth 1 r_1.2.1,.int .i64 1]))
  ((a0h tab .eql ty3 t55 (.int .i64 12)).bind fun t61=>dIf t61
  (scope h r_1.2.2 (a0s [nth 1 r_1.2.1,.int .i64 2]))
  (scope h r_1.2.2 (a0s [nth 1 r_1.2.1,.int .i64 0])))) fun x_1=>a0M x_1 (scope h r_1.2.2 (a0s [.int .i64 0,.int .i64 0]))
theorem b6w (t0 t1 t2 t3:D) (h:Hp):R a7h [t0,t1,t2,t3] h=b3F t0 t1 t2 t3 h :=
 er i44 (by kernel_rfl) (by kernel_rfl)
noncomputable def a6L (t0:D) (ds:List D) (h_1:Hp):Option Out :=
 (a0h tab .lss ty3 (nth 0 ds) (nth 1 ds)).bind fun t15=>dIf t15
  ((a0a tab a0j t0 (nth 1 ds)).bind fun t22=>(a0f tab h_1 a0c t22).bind fun t23=>(a0a tab a0j t0 (nth 0 ds)).bind fun t26=>(a0f tab h_1 a0c t26).bind fun t27=>(a0a tab a0j t0 (nth 0 ds)).bind fun t28=>((a0q tab h_1 a0c t28 t23).bind fun h'=>some ((.und:D),h')).bind fun p913=>(a0a tab a0j t0 (nth 1 ds)).bind fun t29=>((a0q tab p913.2 a0c t29 t27).bind fun h'=>some ((.und:D),h')).bind fun p915=>(a0h tab .add ty3 (nth 0 ds) (.int .i64 1)).bind fun t31=>(a0h tab .sub ty3 (nth 1 ds) (.int .i64 1)).bind fun t33=>some (.nrm,[t31,t33,t15],p915.2))
  (some ((.ext 0),[nth 0 ds,nth 1 ds,t15],h_1))
noncomputable def b3G (t0 t1 t2 t3:D) (h:Hp):Option (D × Hp) :=
 (a0h tab .sub ty3 t2 (.int .i64 1)).bind fun t12=>((a0v (a6L t0) [t1,t12,.any] h).bind fun r=>some ((a0t 0 r.1),[nth 0 r.2.1,nth 1 r.2.1,nth 2 r.2.1],r.2.2)).bind fun r_1=>a0M r_1.1 (some (a0s [],r_1.2.2))
theorem b6x (t0 t1 t2 t3:D) (h:Hp):R a8Q [t0,t1,t2,t3] h=b3G t0 t1 t2 t3 h :=
 er i45 (by kernel_rfl) (by kernel_rfl)
noncomputable def a4D (t0 t2 t3:D) (ds_1:List D) (h_2:Hp):Option Out :=
 (a0h tab .lss ty3 (nth 0 ds_1) t2).bind fun t21=>(gd t21 true (some t3)).bind fun t23=>(gd t21 true (some t0)).bind fun t24=>(gd t21 true (some (nth 0 ds_1))).bind fun t25=>(gd t21 true (a0a tab a0j t24 t25)).bind fun t26=>(gd t21 true (a0f tab h_2 a0c t26)).bind fun t27=>(gd t21 true (some t0)).bind fun t28=>(gd t21 true (some (nth 0 ds_1))).bind fun t29=>(gd t21 true (a0h tab .sub ty3 t29 (.int .i64 1))).bind fun t30=>(gd t21 true (a0a tab a0j t28 t30)).bind fun t31=>(gd t21 true (a0f tab h_2 a0c t31)).bind fun t32=>(gdW t21 true h_2 (a0W R t23 [t27,t32] h_2)).bind fun p33=>(gd t21 true (a0h tab .lss ty3 p33.1 (.int .i64 0))).bind fun t34=>(gd t21 true (dUn .not t34)).bind fun t35=>(a0S t21 t35 (.bool false)).bind fun t36=>dIf t36
  ((a0h tab .add ty3 (nth 0 ds_1) (.int .i64 1)).bind fun t38=>some (.nrm,[t38,t36],p33.2))
  (some ((.ext 2),[nth 0 ds_1,t36],p33.2))
noncomputable def a4E (t0 t3:D) (ds_2:List D) (h_3:Hp):Option Out :=
 (a0h tab .geq ty3 (nth 0 ds_2) (.int .i64 1)).bind fun t69=>dIf t69
  ((a0a tab a0j t0 (nth 0 ds_2)).bind fun t75=>(a0f tab h_3 a0c t75).bind fun t76=>(a0h tab .sub ty3 (nth 0 ds_2) (.int .i64 1)).bind fun t79=>(a0a tab a0j t0 t79).bind fun t80=>(a0f tab h_3 a0c t80).bind fun t81=>(a0W R t3 [t76,t81] h_3).bind fun p82=>(a0h tab .lss ty3 p82.1 (.int .i64 0)).bind fun t83=>(dUn .not t83).bind fun t84=>dIf t84
  (some ((.ext 4),[nth 0 ds_2,t69,t84],p82.2))
  ((a0h tab .sub ty3 (nth 0 ds_2) (.int .i64 1)).bind fun t89=>(a0h tab .sub ty3 (nth 0 ds_2) (.int .i64 1)).bind fun t92=>(a0a tab a0j t0 t92).bind fun t93=>(a0f tab p82.2 a0c t93).bind fun t94=>(a0a tab a0j t0 (nth 0 ds_2)).bind fun t97=>(a0f tab p82.2 a0c t97).bind fun t98=>(a0a tab a0j t0 (nth 0 ds_2)).bind fun t99=>((a0q tab p82.2 a0c t99 t94).bind fun h'=>some ((.und:D),h')).bind fun p915_1=>(a0a tab a0j t0 t89).bind fun t100=>((a0q tab p915_1.2 a0c t100 t98).bind fun h'=>some ((.und:D),h')).bind fun p917_1=>(a0h tab .sub ty3 (nth 0 ds_2) (.int .i64 1)).bind fun t71=>some (.nrm,[t71,t69,t84],p917_1.2)))
  (some ((.ext 4),[nth 0 ds_2,t69,nth 2 ds_2],h_3))
noncomputable def a4F (t0 t2 t3:D) (ds_3:List D) (h_4:Hp):Option Out :=
 (a0h tab .lss ty3 (nth 0 ds_3) t2).bind fun t109=>dIf t109
  ((a0a tab a0j t0 (nth 0 ds_3)).bind fun t115=>(a0f tab h_4 a0c t115).bind fun t116=>(a0h tab .sub ty3 (nth 0 ds_3) (.int .i64 1)).bind fun t119=>(a0a tab a0j t0 t119).bind fun t120=>(a0f tab h_4 a0c t120).bind fun t121=>(a0W R t3 [t116,t121] h_4).bind fun p122=>(a0h tab .lss ty3 p122.1 (.int .i64 0)).bind fun t123=>(dUn .not t123).bind fun t124=>dIf t124
  (some ((.ext 6),[nth 0 ds_3,t109,t124],p122.2))
  ((a0h tab .sub ty3 (nth 0 ds_3) (.int .i64 1)).bind fun t129=>(a0h tab .sub ty3 (nth 0 ds_3) (.int .i64 1)).bind fun t132=>(a0a tab a0j t0 t132).bind fun t133=>(a0f tab p122.2 a0c t133).bind fun t134=>(a0a tab a0j t0 (nth 0 ds_3)).bind fun t137=>(a0f tab p122.2 a0c t137).bind fun t138=>(a0a tab a0j t0 (nth 0 ds_3)).bind fun t139=>((a0q tab p122.2 a0c t139 t134).bind fun h'=>some ((.und:D),h')).bind fun p915_2=>(a0a tab a0j t0 t129).bind fun t140=>((a0q tab p915_2.2 a0c t140 t138).bind fun h'=>some ((.und:D),h')).bind fun p917_2=>(a0h tab .add ty3 (nth 0 ds_3) (.int .i64 1)).bind fun t111=>some (.nrm,[t111,t109,t124],p917_2.2)))
  (some ((.ext 6),[nth 0 ds_3,t109,nth 2 ds_3],h_4))
noncomputable def a6M (t0 t1 t2 t3:D) (ds:List D) (h_1:Hp):Option Out :=
 (a0h tab .lss ty3 (nth 2 ds) (.int .i64 5)).bind fun t16=>dIf t16
  (((a0v (a4D t0 t2 t3) [nth 1 ds,nth 6 ds] h_1).bind fun r_1=>some ((a0t 2 r_1.1),[nth 0 r_1.2.1,nth 1 r_1.2.1],r_1.2.2)).bind fun r_2=>a0A r_2.1 ((a0h tab .eql ty3 (nth 0 r_2.2.1) t2).bind fun t41=>dIf t41
  (some (.ret,[.bool true,nth 0 r_2.2.1,nth 2 ds,nth 3 ds,nth 4 ds,t16,nth 1 r_2.2.1,t41,nth 8 ds,nth 9 ds,nth 10 ds,nth 11 ds,nth 12 ds,nth 13 ds,nth 14 ds],r_2.2.2))
  ((a0h tab .sub ty3 t2 t1).bind fun t44=>(a0h tab .lss ty3 t44 (.int .i64 50)).bind fun t45=>dIf t45
  (some (.ret,[.bool false,nth 0 r_2.2.1,nth 2 ds,nth 3 ds,nth 4 ds,t16,nth 1 r_2.2.1,t41,t45,nth 9 ds,nth 10 ds,nth 11 ds,nth 12 ds,nth 13 ds,nth 14 ds],r_2.2.2))
  ((a0h tab .sub ty3 (nth 0 r_2.2.1) (.int .i64 1)).bind fun t50=>(a0h tab .sub ty3 (nth 0 r_2.2.1) (.int .i64 1)).bind fun t53=>(a0a tab a0j t0 t53).bind fun t54=>(a0f tab r_2.2.2 a0c t54).bind fun t55=>(a0a tab a0j t0 (nth 0 r_2.2.1)).bind fun t58=>(a0f tab r_2.2.2 a0c t58).bind fun t59=>(a0a tab a0j t0 (nth 0 r_2.2.1)).bind fun t60=>((a0q tab r_2.2.2 a0c t60 t55).bind fun h'=>some ((.und:D),h')).bind fun p915=>(a0a tab a0j t0 t50).bind fun t61=>((a0q tab p915.2 a0c t61 t59).bind fun h'=>some ((.und:D),h')).bind fun p917=>(a0h tab .sub ty3 (nth 0 r_2.2.1) t1).bind fun t64=>(a0h tab .geq ty3 t64 (.int .i64 2)).bind fun t65=>(dIf t65
  ((a0h tab .sub ty3 (nth 0 r_2.2.1) (.int .i64 1)).bind fun t67=>((a0v (a4E t0 t3) [t67,nth 10 ds,nth 11 ds] p917.2).bind fun r_3=>some ((a0t 4 r_3.1),[nth 0 r_3.2.1,nth 1 r_3.2.1,nth 2 r_3.2.1],r_3.2.2)).bind fun r_4=>some (r_4.1,[nth 0 r_4.2.1,nth 1 r_4.2.1,nth 2 r_4.2.1],r_4.2.2))
  (some (.nrm,[nth 3 ds,nth 10 ds,nth 11 ds],p917.2))).bind fun r_5=>a0A r_5.1 ((a0h tab .sub ty3 t2 (nth 0 r_2.2.1)).bind fun t103=>(a0h tab .geq ty3 t103 (.int .i64 2)).bind fun t104=>(dIf t104
  ((a0h tab .add ty3 (nth 0 r_2.2.1) (.int .i64 1)).bind fun t106=>((a0v (a4F t0 t2 t3) [t106,nth 13 ds,nth 14 ds] r_5.2.2).bind fun r_6=>some ((a0t 6 r_6.1),[nth 0 r_6.2.1,nth 1 r_6.2.1,nth 2 r_6.2.1],r_6.2.2)).bind fun r_7=>some (r_7.1,[nth 0 r_7.2.1,nth 1 r_7.2.1,nth 2 r_7.2.1],r_7.2.2))
  (some (.nrm,[nth 4 ds,nth 13 ds,nth 14 ds],r_5.2.2))).bind fun r_8=>a0A (a0t 1 r_8.1) ((a0h tab .add ty3 (nth 2 ds) (.int .i64 1)).bind fun t18=>some (.nrm,[nth 0 ds,nth 0 r_2.2.1,t18,nth 0 r_5.2.1,nth 0 r_8.2.1,t16,nth 1 r_2.2.1,t41,t45,t65,nth 1 r_5.2.1,nth 2 r_5.2.1,t104,nth 1 r_8.2.1,nth 2 r_8.2.1],r_8.2.2)) fun x_2=>some (x_2,[nth 0 ds,nth 0 r_2.2.1,nth 2 ds,nth 0 r_5.2.1,nth 0 r_8.2.1,t16,nth 1 r_2.2.1,t41,t45,t65,nth 1 r_5.2.1,nth 2 r_5.2.1,t104,nth 1 r_8.2.1,nth 2 r_8.2.1],r_8.2.2)) fun x_1=>a0A (a0t 1 x_1) ((a0h tab .add ty3 (nth 2 ds) (.int .i64 1)).bind fun t18_1=>some (.nrm,[nth 0 ds,nth 0 r_2.2.1,t18_1,nth 0 r_5.2.1,nth 4 ds,t16,nth 1 r_2.2.1,t41,t45,t65,nth 1 r_5.2.1,nth 2 r_5.2.1,nth 12 ds,nth 13 ds,nth 14 ds],r_5.2.2)) fun x_3=>some (x_3,[nth 0 ds,nth 0 r_2.2.1,nth 2 ds,nth 0 r_5.2.1,nth 4 ds,t16,nth 1 r_2.2.1,t41,t45,t65,nth 1 r_5.2.1,nth 2 r_5.2.1,nth 12 ds,nth 13 ds,nth 14 ds],r_5.2.2)))) fun x=>a0A (a0t 1 x) ((a0h tab .add ty3 (nth 2 ds) (.int .i64 1)).bind fun t18_2=>some (.nrm,[nth 0 ds,nth 0 r_2.2.1,t18_2,nth 3 ds,nth 4 ds,t16,nth 1 r_2.2.1,nth 7 ds,nth 8 ds,nth 9 ds,nth 10 ds,nth 11 ds,nth 12 ds,nth 13 ds,nth 14 ds],r_2.2.2)) fun x_4=>some (x_4,[nth 0 ds,nth 0 r_2.2.1,nth 2 ds,nth 3 ds,nth 4 ds,t16,nth 1 r_2.2.1,nth 7 ds,nth 8 ds,nth 9 ds,nth 10 ds,nth 11 ds,nth 12 ds,nth 13 ds,nth 14 ds],r_2.2.2))
  (some ((.ext 0),[nth 0 ds,nth 1 ds,nth 2 ds,nth 3 ds,nth 4 ds,t16,nth 6 ds,nth 7 ds,nth 8 ds,nth 9 ds,nth 10 ds,nth 11 ds,nth 12 ds,nth 13 ds,nth 14 ds],h_1))
noncomputable def b3H (t0 t1 t2 t3:D) (h:Hp):Option (D × Hp) :=
 (a0h tab .add ty3 t1 (.int .i64 1)).bind fun t14=>((a0v (a6M t0 t1 t2 t3) [.bool false,t14,.int .i64 0,.any,.any,.any,.any,.any,.any,.any,.any,.any,.any,.any,.any] h).bind fun r=>some ((a0t 0 r.1),[nth 0 r.2.1,nth 1 r.2.1,nth 2 r.2.1,nth 3 r.2.1,nth 4 r.2.1,nth 5 r.2.1,nth 6 r.2.1,nth 7 r.2.1,nth 8 r.2.1,nth 9 r.2.1,nth 10 r.2.1,nth 11 r.2.1,nth 12 r.2.1,nth 13 r.2.1,nth 14 r.2.1],r.2.2)).bind fun r_9=>a0A r_9.1 (some (a0s [.bool false],r_9.2.2)) fun x_5=>a0M x_5 (some (a0s [nth 0 r_9.2.1],r_9.2.2))
theorem b6y (t0 t1 t2 t3:D) (h:Hp):R a8R [t0,t1,t2,t3] h=b3H t0 t1 t2 t3 h :=
 er i46 (by kernel_rfl) (by kernel_rfl)
noncomputable def b0c (t0 t1 t4:D) (ds:List D) (ds_1:List D) (h_2:Hp):Option Out :=
 (a0h tab .leq ty3 (nth 0 ds_1) (nth 1 ds)).bind fun t33=>(gd t33 true (some t4)).bind fun t35=>(gd t33 true (some t0)).bind fun t36=>(gd t33 true (some t1)).bind fun t37=>(gd t33 true (a0a tab a0j t36 t37)).bind fun t38=>(gd t33 true (a0f tab h_2 a0c t38)).bind fun t39=>(gd t33 true (some t0)).bind fun t40=>(gd t33 true (some (nth 0 ds_1))).bind fun t41=>(gd t33 true (a0a tab a0j t40 t41)).bind fun t42=>(gd t33 true (a0f tab h_2 a0c t42)).bind fun t43=>(gdW t33 true h_2 (a0W R t35 [t39,t43] h_2)).bind fun p44=>(gd t33 true (a0h tab .lss ty3 p44.1 (.int .i64 0))).bind fun t45=>(gd t33 true (dUn .not t45)).bind fun t46=>(a0S t33 t46 (.bool false)).bind fun t47=>dIf t47
  ((a0h tab .add ty3 (nth 0 ds_1) (.int .i64 1)).bind fun t49=>some (.nrm,[t49,t47],p44.2))
  (some ((.ext 2),[nth 0 ds_1,t47],p44.2))
noncomputable def b0d (t0 t1 t4:D) (r_2:Out) (ds_2:List D) (h_3:Hp):Option Out :=
 (a0h tab .leq ty3 (nth 0 r_2.2.1) (nth 0 ds_2)).bind fun t52=>(gd t52 true (some t4)).bind fun t54=>(gd t52 true (some t0)).bind fun t55=>(gd t52 true (some t1)).bind fun t56=>(gd t52 true (a0a tab a0j t55 t56)).bind fun t57=>(gd t52 true (a0f tab h_3 a0c t57)).bind fun t58=>(gd t52 true (some t0)).bind fun t59=>(gd t52 true (some (nth 0 ds_2))).bind fun t60=>(gd t52 true (a0a tab a0j t59 t60)).bind fun t61=>(gd t52 true (a0f tab h_3 a0c t61)).bind fun t62=>(gdW t52 true h_3 (a0W R t54 [t58,t62] h_3)).bind fun p63=>(gd t52 true (a0h tab .lss ty3 p63.1 (.int .i64 0))).bind fun t64=>(a0S t52 t64 (.bool false)).bind fun t65=>dIf t65
  ((a0h tab .sub ty3 (nth 0 ds_2) (.int .i64 1)).bind fun t67=>some (.nrm,[t67,t65],p63.2))
  (some ((.ext 4),[nth 0 ds_2,t65],p63.2))
noncomputable def b0b (t0 t1 t4:D) (ds:List D) (h_1:Hp):Option Out :=
 ((a0v (b0c t0 t1 t4 ds) [nth 0 ds,nth 2 ds] h_1).bind fun r_1=>some ((a0t 2 r_1.1),[nth 0 r_1.2.1,nth 1 r_1.2.1],r_1.2.2)).bind fun r_2=>a0A r_2.1 (((a0v (b0d t0 t1 t4 r_2) [nth 1 ds,nth 3 ds] r_2.2.2).bind fun r_3=>some ((a0t 4 r_3.1),[nth 0 r_3.2.1,nth 1 r_3.2.1],r_3.2.2)).bind fun r_4=>a0A r_4.1 ((a0h tab .gtr ty3 (nth 0 r_2.2.1) (nth 0 r_4.2.1)).bind fun t70=>dIf t70
  (some ((.ext 0),[nth 0 r_2.2.1,nth 0 r_4.2.1,nth 1 r_2.2.1,nth 1 r_4.2.1,t70],r_4.2.2))
  ((a0a tab a0j t0 (nth 0 r_4.2.1)).bind fun t77=>(a0f tab r_4.2.2 a0c t77).bind fun t78=>(a0a tab a0j t0 (nth 0 r_2.2.1)).bind fun t81=>(a0f tab r_4.2.2 a0c t81).bind fun t82=>(a0a tab a0j t0 (nth 0 r_2.2.1)).bind fun t83=>((a0q tab r_4.2.2 a0c t83 t78).bind fun h'=>some ((.und:D),h')).bind fun p913_1=>(a0a tab a0j t0 (nth 0 r_4.2.1)).bind fun t84=>((a0q tab p913_1.2 a0c t84 t82).bind fun h'=>some ((.und:D),h')).bind fun p915_1=>(a0h tab .add ty3 (nth 0 r_2.2.1) (.int .i64 1)).bind fun t86=>(a0h tab .sub ty3 (nth 0 r_4.2.1) (.int .i64 1)).bind fun t88=>some (.nrm,[t86,t88,nth 1 r_2.2.1,nth 1 r_4.2.1,t70],p915_1.2))) fun x_1=>some ((a0t 1 x_1),[nth 0 r_2.2.1,nth 0 r_4.2.1,nth 1 r_2.2.1,nth 1 r_4.2.1,nth 4 ds],r_4.2.2)) fun x=>some ((a0t 1 x),[nth 0 r_2.2.1,nth 1 ds,nth 1 r_2.2.1,nth 3 ds,nth 4 ds],r_2.2.2)
noncomputable def b5R (t0 t1 t2 t3 t4:D) (h:Hp):Option (D × Hp) :=
 (a0a tab a0j t0 t3).bind fun t19=>(a0f tab h a0c t19).bind fun t20=>(a0a tab a0j t0 t1).bind fun t23=>(a0f tab h a0c t23).bind fun t24=>(a0a tab a0j t0 t1).bind fun t25=>((a0q tab h a0c t25 t20).bind fun h'=>some ((.und:D),h')).bind fun p913=>(a0a tab a0j t0 t3).bind fun t26=>((a0q tab p913.2 a0c t26 t24).bind fun h'=>some ((.und:D),h')).bind fun p915=>(a0h tab .add ty3 t1 (.int .i64 1)).bind fun t28=>(a0h tab .sub ty3 t2 (.int .i64 1)).bind fun t30=>((a0v (b0b t0 t1 t4) [t28,t30,.any,.any,.any] p915.2).bind fun r=>some ((a0t 0 r.1),[nth 0 r.2.1,nth 1 r.2.1,nth 2 r.2.1,nth 3 r.2.1,nth 4 r.2.1],r.2.2)).bind fun r_5=>a0A r_5.1 (some (a0s [nth 0 r_5.2.1],r_5.2.2)) fun x_2=>a0M x_2 (some (a0s [.int .i64 0],r_5.2.2))
theorem b8h (t0 t1 t2 t3 t4:D) (h:Hp):R b1n [t0,t1,t2,t3,t4] h=b5R t0 t1 t2 t3 t4 h :=
 er i47 (by kernel_rfl) (by kernel_rfl)
noncomputable def a4G (t0 t1 t4 t13m:D) (ds:List D) (h_1:Hp):Option Out :=
 (a0h tab .leq ty3 (nth 0 ds) t13m).bind fun t34=>(gd t34 true (some t4)).bind fun t36=>(gd t34 true (some t0)).bind fun t37=>(gd t34 true (some (nth 0 ds))).bind fun t38=>(gd t34 true (a0a tab a0j t37 t38)).bind fun t39=>(gd t34 true (a0f tab h_1 a0c t39)).bind fun t40=>(gd t34 true (some t0)).bind fun t41=>(gd t34 true (some t1)).bind fun t42=>(gd t34 true (a0a tab a0j t41 t42)).bind fun t43=>(gd t34 true (a0f tab h_1 a0c t43)).bind fun t44=>(gdW t34 true h_1 (a0W R t36 [t40,t44] h_1)).bind fun p45=>(gd t34 true (a0h tab .lss ty3 p45.1 (.int .i64 0))).bind fun t46=>(a0S t34 t46 (.bool false)).bind fun t47=>dIf t47
  ((a0h tab .add ty3 (nth 0 ds) (.int .i64 1)).bind fun t49=>some (.nrm,[t49,t47],p45.2))
  (some ((.ext 0),[nth 0 ds,t47],p45.2))
noncomputable def a4H (t0 t1 t4:D) (r_1:Out) (ds_1:List D) (h_2:Hp):Option Out :=
 (a0h tab .leq ty3 (nth 0 r_1.2.1) (nth 0 ds_1)).bind fun t52=>(gd t52 true (some t4)).bind fun t54=>(gd t52 true (some t0)).bind fun t55=>(gd t52 true (some (nth 0 ds_1))).bind fun t56=>(gd t52 true (a0a tab a0j t55 t56)).bind fun t57=>(gd t52 true (a0f tab h_2 a0c t57)).bind fun t58=>(gd t52 true (some t0)).bind fun t59=>(gd t52 true (some t1)).bind fun t60=>(gd t52 true (a0a tab a0j t59 t60)).bind fun t61=>(gd t52 true (a0f tab h_2 a0c t61)).bind fun t62=>(gdW t52 true h_2 (a0W R t54 [t58,t62] h_2)).bind fun p63=>(gd t52 true (a0h tab .lss ty3 p63.1 (.int .i64 0))).bind fun t64=>(gd t52 true (dUn .not t64)).bind fun t65=>(a0S t52 t65 (.bool false)).bind fun t66=>dIf t66
  ((a0h tab .sub ty3 (nth 0 ds_1) (.int .i64 1)).bind fun t68=>some (.nrm,[t68,t66],p63.2))
  (some ((.ext 2),[nth 0 ds_1,t66],p63.2))
noncomputable def a4I (t0 t1 t4:D) (ds_2:List D) (ds_3:List D) (h_4:Hp):Option Out :=
 (a0h tab .leq ty3 (nth 0 ds_3) (nth 1 ds_2)).bind fun t107=>(gd t107 true (some t4)).bind fun t109=>(gd t107 true (some t0)).bind fun t110=>(gd t107 true (some (nth 0 ds_3))).bind fun t111=>(gd t107 true (a0a tab a0j t110 t111)).bind fun t112=>(gd t107 true (a0f tab h_4 a0c t112)).bind fun t113=>(gd t107 true (some t0)).bind fun t114=>(gd t107 true (some t1)).bind fun t115=>(gd t107 true (a0a tab a0j t114 t115)).bind fun t116=>(gd t107 true (a0f tab h_4 a0c t116)).bind fun t117=>(gdW t107 true h_4 (a0W R t109 [t113,t117] h_4)).bind fun p118=>(gd t107 true (a0h tab .lss ty3 p118.1 (.int .i64 0))).bind fun t119=>(a0S t107 t119 (.bool false)).bind fun t120=>dIf t120
  ((a0h tab .add ty3 (nth 0 ds_3) (.int .i64 1)).bind fun t122=>some (.nrm,[t122,t120],p118.2))
  (some ((.ext 6),[nth 0 ds_3,t120],p118.2))
noncomputable def a4J (t0 t1 t4:D) (r_6:Out) (ds_4:List D) (h_5:Hp):Option Out :=
 (a0h tab .leq ty3 (nth 0 r_6.2.1) (nth 0 ds_4)).bind fun t125=>(gd t125 true (some t4)).bind fun t127=>(gd t125 true (some t0)).bind fun t128=>(gd t125 true (some (nth 0 ds_4))).bind fun t129=>(gd t125 true (a0a tab a0j t128 t129)).bind fun t130=>(gd t125 true (a0f tab h_5 a0c t130)).bind fun t131=>(gd t125 true (some t0)).bind fun t132=>(gd t125 true (some t1)).bind fun t133=>(gd t125 true (a0a tab a0j t132 t133)).bind fun t134=>(gd t125 true (a0f tab h_5 a0c t134)).bind fun t135=>(gdW t125 true h_5 (a0W R t127 [t131,t135] h_5)).bind fun p136=>(gd t125 true (a0h tab .lss ty3 p136.1 (.int .i64 0))).bind fun t137=>(gd t125 true (dUn .not t137)).bind fun t138=>(a0S t125 t138 (.bool false)).bind fun t139=>dIf t139
  ((a0h tab .sub ty3 (nth 0 ds_4) (.int .i64 1)).bind fun t141=>some (.nrm,[t141,t139],p136.2))
  (some ((.ext 8),[nth 0 ds_4,t139],p136.2))
noncomputable def a6N (t0 t1 t4:D) (ds_2:List D) (h_3:Hp):Option Out :=
 ((a0v (a4I t0 t1 t4 ds_2) [nth 0 ds_2,nth 2 ds_2] h_3).bind fun r_5=>some ((a0t 6 r_5.1),[nth 0 r_5.2.1,nth 1 r_5.2.1],r_5.2.2)).bind fun r_6=>a0A r_6.1 (((a0v (a4J t0 t1 t4 r_6) [nth 1 ds_2,nth 3 ds_2] r_6.2.2).bind fun r_7=>some ((a0t 8 r_7.1),[nth 0 r_7.2.1,nth 1 r_7.2.1],r_7.2.2)).bind fun r_8=>a0A r_8.1 ((a0h tab .gtr ty3 (nth 0 r_6.2.1) (nth 0 r_8.2.1)).bind fun t144=>dIf t144
  (some ((.ext 4),[nth 0 r_6.2.1,nth 0 r_8.2.1,nth 1 r_6.2.1,nth 1 r_8.2.1,t144],r_8.2.2))
  ((a0a tab a0j t0 (nth 0 r_8.2.1)).bind fun t151=>(a0f tab r_8.2.2 a0c t151).bind fun t152=>(a0a tab a0j t0 (nth 0 r_6.2.1)).bind fun t155=>(a0f tab r_8.2.2 a0c t155).bind fun t156=>(a0a tab a0j t0 (nth 0 r_6.2.1)).bind fun t157=>((a0q tab r_8.2.2 a0c t157 t152).bind fun h'=>some ((.und:D),h')).bind fun p913_3=>(a0a tab a0j t0 (nth 0 r_8.2.1)).bind fun t158=>((a0q tab p913_3.2 a0c t158 t156).bind fun h'=>some ((.und:D),h')).bind fun p915_3=>(a0h tab .add ty3 (nth 0 r_6.2.1) (.int .i64 1)).bind fun t160=>(a0h tab .sub ty3 (nth 0 r_8.2.1) (.int .i64 1)).bind fun t162=>some (.nrm,[t160,t162,nth 1 r_6.2.1,nth 1 r_8.2.1,t144],p915_3.2))) fun x_3=>some ((a0t 5 x_3),[nth 0 r_6.2.1,nth 0 r_8.2.1,nth 1 r_6.2.1,nth 1 r_8.2.1,nth 4 ds_2],r_8.2.2)) fun x_2=>some ((a0t 5 x_2),[nth 0 r_6.2.1,nth 1 ds_2,nth 1 r_6.2.1,nth 3 ds_2,nth 4 ds_2],r_6.2.2)
noncomputable def b3I (t0 t1 t2 t3 t4:D) (h:Hp):Option (D × Hp) :=
 (a0a tab a0j t0 t3).bind fun t20=>(a0f tab h a0c t20).bind fun t21=>(a0a tab a0j t0 t1).bind fun t24=>(a0f tab h a0c t24).bind fun t25=>(a0a tab a0j t0 t1).bind fun t26=>((a0q tab h a0c t26 t21).bind fun h'=>some ((.und:D),h')).bind fun p913=>(a0a tab a0j t0 t3).bind fun t27=>((a0q tab p913.2 a0c t27 t25).bind fun h'=>some ((.und:D),h')).bind fun p915=>(a0h tab .add ty3 t1 (.int .i64 1)).bind fun t29=>(a0h tab .sub ty3 t2 (.int .i64 1)).bind fun t31=>((a0v (a4G t0 t1 t4 t31) [t29,.any] p915.2).bind fun r=>some ((a0t 0 r.1),[nth 0 r.2.1,nth 1 r.2.1],r.2.2)).bind fun r_1=>a0A r_1.1 (((a0v (a4H t0 t1 t4 r_1) [t31,.any] r_1.2.2).bind fun r_2=>some ((a0t 2 r_2.1),[nth 0 r_2.2.1,nth 1 r_2.2.1],r_2.2.2)).bind fun r_3=>a0A r_3.1 ((a0h tab .gtr ty3 (nth 0 r_1.2.1) (nth 0 r_3.2.1)).bind fun t71=>dIf t71
  ((a0a tab a0j t0 t1).bind fun t78=>(a0f tab r_3.2.2 a0c t78).bind fun t79=>(a0a tab a0j t0 (nth 0 r_3.2.1)).bind fun t82=>(a0f tab r_3.2.2 a0c t82).bind fun t83=>(a0a tab a0j t0 (nth 0 r_3.2.1)).bind fun t84=>((a0q tab r_3.2.2 a0c t84 t79).bind fun h'=>some ((.und:D),h')).bind fun p913_1=>(a0a tab a0j t0 t1).bind fun t85=>((a0q tab p913_1.2 a0c t85 t83).bind fun h'=>some ((.und:D),h')).bind fun p915_1=>some (a0s [nth 0 r_3.2.1,.bool true],p915_1.2))
  ((a0a tab a0j t0 (nth 0 r_3.2.1)).bind fun t93=>(a0f tab r_3.2.2 a0c t93).bind fun t94=>(a0a tab a0j t0 (nth 0 r_1.2.1)).bind fun t97=>(a0f tab r_3.2.2 a0c t97).bind fun t98=>(a0a tab a0j t0 (nth 0 r_1.2.1)).bind fun t99=>((a0q tab r_3.2.2 a0c t99 t94).bind fun h'=>some ((.und:D),h')).bind fun p913_2=>(a0a tab a0j t0 (nth 0 r_3.2.1)).bind fun t100=>((a0q tab p913_2.2 a0c t100 t98).bind fun h'=>some ((.und:D),h')).bind fun p915_2=>(a0h tab .add ty3 (nth 0 r_1.2.1) (.int .i64 1)).bind fun t102=>(a0h tab .sub ty3 (nth 0 r_3.2.1) (.int .i64 1)).bind fun t104=>((a0v (a6N t0 t1 t4) [t102,t104,.any,.any,.any] p915_2.2).bind fun r_4=>some ((a0t 4 r_4.1),[nth 0 r_4.2.1,nth 1 r_4.2.1,nth 2 r_4.2.1,nth 3 r_4.2.1,nth 4 r_4.2.1],r_4.2.2)).bind fun r_9=>a0A r_9.1 ((a0a tab a0j t0 t1).bind fun t169=>(a0f tab r_9.2.2 a0c t169).bind fun t170=>(a0a tab a0j t0 (nth 1 r_9.2.1)).bind fun t173=>(a0f tab r_9.2.2 a0c t173).bind fun t174=>(a0a tab a0j t0 (nth 1 r_9.2.1)).bind fun t175=>((a0q tab r_9.2.2 a0c t175 t170).bind fun h'=>some ((.und:D),h')).bind fun p913_4=>(a0a tab a0j t0 t1).bind fun t176=>((a0q tab p913_4.2 a0c t176 t174).bind fun h'=>some ((.und:D),h')).bind fun p915_4=>some (a0s [nth 1 r_9.2.1,.bool false],p915_4.2)) fun x_4=>a0M x_4 (some (a0s [.int .i64 0,.bool false],r_9.2.2)))) fun x_1=>a0M x_1 (some (a0s [.int .i64 0,.bool false],r_3.2.2))) fun x=>a0M x (some (a0s [.int .i64 0,.bool false],r_1.2.2))
theorem b6z (t0 t1 t2 t3 t4:D) (h:Hp):R a8S [t0,t1,t2,t3,t4] h=b3I t0 t1 t2 t3 t4 h :=
 er i48 (by kernel_rfl) (by kernel_rfl)
noncomputable def b7L (t0:D) (h:Hp):Option (D × Hp) :=
 (a0h tab .neq ty9 t0 t0).bind fun t5=>some (a0s [t5],h)
theorem b8e (t0:D) (h:Hp):R b0z [t0] h=b7L t0 h :=
 er i49 (by kernel_rfl) (by kernel_rfl)
noncomputable def a6O (t0 t2 t3 t4:D) (ds:List D) (h_1:Hp):Option Out :=
 (a0h tab .mul ty3 (.int .i64 2) (nth 0 ds)).bind fun t14=>(a0h tab .add ty3 t14 (.int .i64 1)).bind fun t15=>(a0h tab .geq ty3 t15 t2).bind fun t18=>dIf t18
  (some ((.ext 0),[nth 0 ds,t15,t18,nth 3 ds,nth 4 ds],h_1))
  ((a0h tab .add ty3 t15 (.int .i64 1)).bind fun t20=>(a0h tab .lss ty3 t20 t2).bind fun t22=>(gd t22 true (some t4)).bind fun t24=>(gd t22 true (some t0)).bind fun t25=>(gd t22 true (some t3)).bind fun t26=>(gd t22 true (some t15)).bind fun t27=>(gd t22 true (a0h tab .add ty3 t26 t27)).bind fun t28=>(gd t22 true (a0a tab a0m t25 t28)).bind fun t29=>(gd t22 true (a0f tab h_1 a0d t29)).bind fun t30=>(gd t22 true (some t0)).bind fun t31=>(gd t22 true (some t3)).bind fun t32=>(gd t22 true (some t15)).bind fun t33=>(gd t22 true (a0h tab .add ty3 t32 t33)).bind fun t34=>(gd t22 true (a0h tab .add ty3 t34 (.int .i64 1))).bind fun t35=>(gd t22 true (a0a tab a0m t31 t35)).bind fun t36=>(gd t22 true (a0f tab h_1 a0d t36)).bind fun t37=>(gdW t22 true h_1 (a0W R t24 [t30,t37] h_1)).bind fun p38=>(gd t22 true (a0h tab .lss ty3 p38.1 (.int .i64 0))).bind fun t39=>(a0S t22 t39 (.bool false)).bind fun t40=>(dIf t40
  ((a0h tab .add ty3 t15 (.int .i64 1)).bind fun t42=>some (.nrm,[t42],p38.2))
  (some (.nrm,[t15],p38.2))).bind fun r_1=>a0A r_1.1 ((a0h tab .add ty3 t3 (nth 0 ds)).bind fun t47=>(a0a tab a0m t0 t47).bind fun t48=>(a0f tab r_1.2.2 a0d t48).bind fun t49=>(a0h tab .add ty3 t3 (nth 0 r_1.2.1)).bind fun t53=>(a0a tab a0m t0 t53).bind fun t54=>(a0f tab r_1.2.2 a0d t54).bind fun t55=>(a0W R t4 [t49,t55] r_1.2.2).bind fun p56=>(a0h tab .lss ty3 p56.1 (.int .i64 0)).bind fun t57=>(dUn .not t57).bind fun t58=>dIf t58
  (some (.ret,[nth 0 ds,nth 0 r_1.2.1,t18,t40,t58],p56.2))
  ((a0h tab .add ty3 t3 (nth 0 ds)).bind fun t62=>(a0h tab .add ty3 t3 (nth 0 r_1.2.1)).bind fun t66=>(a0h tab .add ty3 t3 (nth 0 r_1.2.1)).bind fun t70=>(a0a tab a0m t0 t70).bind fun t71=>(a0f tab p56.2 a0d t71).bind fun t72=>(a0h tab .add ty3 t3 (nth 0 ds)).bind fun t76=>(a0a tab a0m t0 t76).bind fun t77=>(a0f tab p56.2 a0d t77).bind fun t78=>(a0a tab a0m t0 t62).bind fun t79=>((a0q tab p56.2 a0d t79 t72).bind fun h'=>some ((.und:D),h')).bind fun p921=>(a0a tab a0m t0 t66).bind fun t80=>((a0q tab p921.2 a0d t80 t78).bind fun h'=>some ((.und:D),h')).bind fun p923=>some (.nrm,[nth 0 r_1.2.1,nth 0 r_1.2.1,t18,t40,t58],p923.2))) fun x=>some ((a0t 1 x),[nth 0 ds,nth 0 r_1.2.1,t18,t40,nth 4 ds],r_1.2.2))
noncomputable def b3J (t0 t1 t2 t3 t4:D) (h:Hp):Option (D × Hp) :=
 ((a0v (a6O t0 t2 t3 t4) [t1,.any,.any,.any,.any] h).bind fun r=>some ((a0t 0 r.1),[nth 0 r.2.1,nth 1 r.2.1,nth 2 r.2.1,nth 3 r.2.1,nth 4 r.2.1],r.2.2)).bind fun r_2=>a0M r_2.1 (some (a0s [],r_2.2.2))
theorem b6A (t0 t1 t2 t3 t4:D) (h:Hp):R a7i [t0,t1,t2,t3,t4] h=b3J t0 t1 t2 t3 t4 h :=
 er i50 (by kernel_rfl) (by kernel_rfl)
noncomputable def b3K (t0:D) (h:Hp):Option (D × Hp) :=
 (a1J tab ty3 a2Z t0).bind fun t4=>(R a3x [t4] h).bind fun p5=>(a0h tab .shl a2Z (.int .u64 1) p5.1).bind fun t6=>some (a0s [t6],p5.2)
theorem b6B (t0:D) (h:Hp):R a7j [t0] h=b3K t0 h :=
 er i51 (by kernel_rfl) (by kernel_rfl)
noncomputable def b3L (t0:D) (h:Hp):Option (D × Hp) :=
 (a0G tab t0).bind fun t4=>(a0f tab h a0B t4).bind fun t5=>(a0G tab t0).bind fun t7=>(a0f tab h a0B t7).bind fun t8=>(a0h tab .shl a0B t8 (.int .u64 13)).bind fun t9=>(a0h tab .xor a0B t5 t9).bind fun t10=>(a0G tab t0).bind fun t11=>((a0q tab h a0B t11 t10).bind fun h'=>some ((.und:D),h')).bind fun p909=>(a0G tab t0).bind fun t13=>(a0f tab p909.2 a0B t13).bind fun t14=>(a0G tab t0).bind fun t16=>(a0f tab p909.2 a0B t16).bind fun t17=>(a0h tab .shr a0B t17 (.int .u64 7)).bind fun t18=>(a0h tab .xor a0B t14 t18).bind fun t19=>(a0G tab t0).bind fun t20=>((a0q tab p909.2 a0B t20 t19).bind fun h'=>some ((.und:D),h')).bind fun p909_1=>(a0G tab t0).bind fun t22=>(a0f tab p909_1.2 a0B t22).bind fun t23=>(a0G tab t0).bind fun t25=>(a0f tab p909_1.2 a0B t25).bind fun t26=>(a0h tab .shl a0B t26 (.int .u64 17)).bind fun t27=>(a0h tab .xor a0B t23 t27).bind fun t28=>(a0G tab t0).bind fun t29=>((a0q tab p909_1.2 a0B t29 t28).bind fun h'=>some ((.und:D),h')).bind fun p909_2=>(a0G tab t0).bind fun t31=>(a0f tab p909_2.2 a0B t31).bind fun t32=>some (a0s [t32],p909_2.2)
theorem b6C (t0:D) (h:Hp):R a7k [t0] h=b3L t0 h :=
 er i52 (by kernel_rfl) (by kernel_rfl)
noncomputable def b3M (t0 t1 t2 t3:D) (h:Hp):Option (D × Hp) :=
 (a0h tab .sub ty3 t1 (.int .i64 1)).bind fun t11=>(a0h tab .add ty3 t1 (.int .i64 1)).bind fun t14=>(R a7l [t0,t11,t1,t14,t2,t3] h).bind fun p17=>some (a0s [p17.1],p17.2)
theorem b6D (t0 t1 t2 t3:D) (h:Hp):R a5K [t0,t1,t2,t3] h=b3M t0 t1 t2 t3 h :=
 er i53 (by kernel_rfl) (by kernel_rfl)
noncomputable def b3N (t0 t1 t2 t3 t4 t5:D) (h:Hp):Option (D × Hp) :=
 (R a4c [t0,t1,t2,t4,t5] h).bind fun p19=>(a0x 0 p19.1).bind fun t20=>(a0x 1 p19.1).bind fun t21=>(R a4c [t0,t21,t3,t4,t5] p19.2).bind fun p28=>(a0x 0 p28.1).bind fun t29=>(a0x 1 p28.1).bind fun t30=>(R a4c [t0,t20,t29,t4,t5] p28.2).bind fun p37=>(a0x 0 p37.1).bind fun t38=>(a0x 1 p37.1).bind fun t39=>some (a0s [t39],p37.2)
theorem b6E (t0 t1 t2 t3 t4 t5:D) (h:Hp):R a7l [t0,t1,t2,t3,t4,t5] h=b3N t0 t1 t2 t3 t4 t5 h :=
 er i54 (by kernel_rfl) (by kernel_rfl)
noncomputable def a6P (t0 t2 t3 t4:D) (ds:List D) (h_1:Hp):Option Out :=
 (a0h tab .mul ty3 (.int .i64 2) (nth 0 ds)).bind fun t14=>(a0h tab .add ty3 t14 (.int .i64 1)).bind fun t15=>(a0h tab .geq ty3 t15 t2).bind fun t18=>dIf t18
  (some ((.ext 0),[nth 0 ds,t15,t18,nth 3 ds,nth 4 ds],h_1))
  ((a0h tab .add ty3 t15 (.int .i64 1)).bind fun t20=>(a0h tab .lss ty3 t20 t2).bind fun t22=>(gd t22 true (some t4)).bind fun t24=>(gd t22 true (some t0)).bind fun t25=>(gd t22 true (some t3)).bind fun t26=>(gd t22 true (some t15)).bind fun t27=>(gd t22 true (a0h tab .add ty3 t26 t27)).bind fun t28=>(gd t22 true (a0a tab a0j t25 t28)).bind fun t29=>(gd t22 true (a0f tab h_1 a0c t29)).bind fun t30=>(gd t22 true (some t0)).bind fun t31=>(gd t22 true (some t3)).bind fun t32=>(gd t22 true (some t15)).bind fun t33=>(gd t22 true (a0h tab .add ty3 t32 t33)).bind fun t34=>(gd t22 true (a0h tab .add ty3 t34 (.int .i64 1))).bind fun t35=>(gd t22 true (a0a tab a0j t31 t35)).bind fun t36=>(gd t22 true (a0f tab h_1 a0c t36)).bind fun t37=>(gdW t22 true h_1 (a0W R t24 [t30,t37] h_1)).bind fun p38=>(gd t22 true (a0h tab .lss ty3 p38.1 (.int .i64 0))).bind fun t39=>(a0S t22 t39 (.bool false)).bind fun t40=>(dIf t40
  ((a0h tab .add ty3 t15 (.int .i64 1)).bind fun t42=>some (.nrm,[t42],p38.2))
  (some (.nrm,[t15],p38.2))).bind fun r_1=>a0A r_1.1 ((a0h tab .add ty3 t3 (nth 0 ds)).bind fun t47=>(a0a tab a0j t0 t47).bind fun t48=>(a0f tab r_1.2.2 a0c t48).bind fun t49=>(a0h tab .add ty3 t3 (nth 0 r_1.2.1)).bind fun t53=>(a0a tab a0j t0 t53).bind fun t54=>(a0f tab r_1.2.2 a0c t54).bind fun t55=>(a0W R t4 [t49,t55] r_1.2.2).bind fun p56=>(a0h tab .lss ty3 p56.1 (.int .i64 0)).bind fun t57=>(dUn .not t57).bind fun t58=>dIf t58
  (some (.ret,[nth 0 ds,nth 0 r_1.2.1,t18,t40,t58],p56.2))
  ((a0h tab .add ty3 t3 (nth 0 ds)).bind fun t62=>(a0h tab .add ty3 t3 (nth 0 r_1.2.1)).bind fun t66=>(a0h tab .add ty3 t3 (nth 0 r_1.2.1)).bind fun t70=>(a0a tab a0j t0 t70).bind fun t71=>(a0f tab p56.2 a0c t71).bind fun t72=>(a0h tab .add ty3 t3 (nth 0 ds)).bind fun t76=>(a0a tab a0j t0 t76).bind fun t77=>(a0f tab p56.2 a0c t77).bind fun t78=>(a0a tab a0j t0 t62).bind fun t79=>((a0q tab p56.2 a0c t79 t72).bind fun h'=>some ((.und:D),h')).bind fun p921=>(a0a tab a0j t0 t66).bind fun t80=>((a0q tab p921.2 a0c t80 t78).bind fun h'=>some ((.und:D),h')).bind fun p923=>some (.nrm,[nth 0 r_1.2.1,nth 0 r_1.2.1,t18,t40,t58],p923.2))) fun x=>some ((a0t 1 x),[nth 0 ds,nth 0 r_1.2.1,t18,t40,nth 4 ds],r_1.2.2))
noncomputable def b3O (t0 t1 t2 t3 t4:D) (h:Hp):Option (D × Hp) :=
 ((a0v (a6P t0 t2 t3 t4) [t1,.any,.any,.any,.any] h).bind fun r=>some ((a0t 0 r.1),[nth 0 r.2.1,nth 1 r.2.1,nth 2 r.2.1,nth 3 r.2.1,nth 4 r.2.1],r.2.2)).bind fun r_2=>a0M r_2.1 (some (a0s [],r_2.2.2))
theorem b6F (t0 t1 t2 t3 t4:D) (h:Hp):R a7m [t0,t1,t2,t3,t4] h=b3O t0 t1 t2 t3 t4 h :=
 er i56 (by kernel_rfl) (by kernel_rfl)
noncomputable def b3P (t0 t1 t2 t3:D) (h:Hp):Option (D × Hp) :=
 (a0h tab .sub ty3 t1 (.int .i64 1)).bind fun t11=>(a0h tab .add ty3 t1 (.int .i64 1)).bind fun t14=>(R a7n [t0,t11,t1,t14,t2,t3] h).bind fun p17=>some (a0s [p17.1],p17.2)
theorem b6G (t0 t1 t2 t3:D) (h:Hp):R a5L [t0,t1,t2,t3] h=b3P t0 t1 t2 t3 h :=
 er i57 (by kernel_rfl) (by kernel_rfl)
noncomputable def b3Q (t0 t1 t2 t3 t4 t5:D) (h:Hp):Option (D × Hp) :=
 (R a4d [t0,t1,t2,t4,t5] h).bind fun p19=>(a0x 0 p19.1).bind fun t20=>(a0x 1 p19.1).bind fun t21=>(R a4d [t0,t21,t3,t4,t5] p19.2).bind fun p28=>(a0x 0 p28.1).bind fun t29=>(a0x 1 p28.1).bind fun t30=>(R a4d [t0,t20,t29,t4,t5] p28.2).bind fun p37=>(a0x 0 p37.1).bind fun t38=>(a0x 1 p37.1).bind fun t39=>some (a0s [t39],p37.2)
theorem b6H (t0 t1 t2 t3 t4 t5:D) (h:Hp):R a7n [t0,t1,t2,t3,t4,t5] h=b3Q t0 t1 t2 t3 t4 t5 h :=
 er i58 (by kernel_rfl) (by kernel_rfl)
noncomputable def b3R (t0 t1 t2 t3 t4:D) (h:Hp):Option (D × Hp) :=
 (a0a tab a0m t0 t2).bind fun t15=>(a0f tab h a0d t15).bind fun t16=>(a0a tab a0m t0 t1).bind fun t19=>(a0f tab h a0d t19).bind fun t20=>(a0W R t4 [t16,t20] h).bind fun p21=>(a0h tab .lss ty3 p21.1 (.int .i64 0)).bind fun t22=>dIf t22
  ((a0G tab t3).bind fun t24=>(a0f tab p21.2 ty3 t24).bind fun t25=>(a0h tab .add ty3 t25 (.int .i64 1)).bind fun t26=>(a0G tab t3).bind fun t27=>((a0q tab p21.2 ty3 t27 t26).bind fun h'=>some ((.und:D),h')).bind fun p905=>some (a0s [t2,t1],p905.2))
  (some (a0s [t1,t2],p21.2))
theorem b6I (t0 t1 t2 t3 t4:D) (h:Hp):R a4c [t0,t1,t2,t3,t4] h=b3R t0 t1 t2 t3 t4 h :=
 er i59 (by kernel_rfl) (by kernel_rfl)
noncomputable def b3S (t0 t1 t2 t3 t4:D) (h:Hp):Option (D × Hp) :=
 (a0a tab a0j t0 t2).bind fun t15=>(a0f tab h a0c t15).bind fun t16=>(a0a tab a0j t0 t1).bind fun t19=>(a0f tab h a0c t19).bind fun t20=>(a0W R t4 [t16,t20] h).bind fun p21=>(a0h tab .lss ty3 p21.1 (.int .i64 0)).bind fun t22=>dIf t22
  ((a0G tab t3).bind fun t24=>(a0f tab p21.2 ty3 t24).bind fun t25=>(a0h tab .add ty3 t25 (.int .i64 1)).bind fun t26=>(a0G tab t3).bind fun t27=>((a0q tab p21.2 ty3 t27 t26).bind fun h'=>some ((.und:D),h')).bind fun p905=>some (a0s [t2,t1],p905.2))
  (some (a0s [t1,t2],p21.2))
theorem b6J (t0 t1 t2 t3 t4:D) (h:Hp):R a4d [t0,t1,t2,t3,t4] h=b3S t0 t1 t2 t3 t4 h :=
 er i61 (by kernel_rfl) (by kernel_rfl)
end Go.Proofs.YtkpnnfhodlanjaaDoor
