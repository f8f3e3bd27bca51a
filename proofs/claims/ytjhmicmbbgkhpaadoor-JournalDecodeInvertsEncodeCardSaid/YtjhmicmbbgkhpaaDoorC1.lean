/- Functions as Lean functions on data. -/
import Derived.Test.YtjhmicmbbgkhpaaDoorB1
set_option linter.unusedSimpArgs false
set_option linter.unusedVariables false
set_option linter.unnecessarySimpa false
set_option maxRecDepth 100000
namespace Go.Proofs.YtjhmicmbbgkhpaaDoor
open Go.Eng Go.Pi
/-- a loop: slots 2 5 6 7 8 9 10 11 12 28 71 -/
noncomputable def F1157_L0 (t3 : D) (ds : List D) (h_1 : Hp) : Option Out :=
    (some ((nth 2 ds) : D)).bind fun t25 =>
    (some (t3 : D)).bind fun t26 =>
    (dLenT tab ty1059 t26).bind fun t27 =>
    (dBin tab .lss ty3 t25 t27).bind fun t28 =>
    dIf t28
      ((some (t3 : D)).bind fun t32 =>
    (some ((nth 2 ds) : D)).bind fun t33 =>
    (dIndexAddr tab ty1059 t32 t33).bind fun t34 =>
    (dLoad tab h_1 ty1064 t34).bind fun t35 =>
    (R fn1158 [t35] h_1).bind fun p36 =>
    (some (p36.1 : D)).bind fun t31 =>
    (dExtract 0 t31).bind fun t37 =>
    (dExtract 1 t31).bind fun t38 =>
    (some (t37 : D)).bind fun t7 =>
    (some (t38 : D)).bind fun t8 =>
    (some (t7 : D)).bind fun t40 =>
    (R fn1159 [t40] p36.2).bind fun p41 =>
    (some (p41.1 : D)).bind fun t39 =>
    (dExtract 0 t39).bind fun t42 =>
    (dExtract 1 t39).bind fun t43 =>
    (boxN 3 t42).bind fun t9 =>
    (some (t43 : D)).bind fun t10 =>
    (some ((nth 1 ds) : D)).bind fun t45 =>
    (some (t3 : D)).bind fun t46 =>
    (some ((nth 2 ds) : D)).bind fun t47 =>
    (dIndexAddr tab ty1059 t46 t47).bind fun t48 =>
    (dLoad tab p41.2 ty1064 t48).bind fun t49 =>
    (R fn1160 [t45, t49] p41.2).bind fun p50 =>
    (some (p50.1 : D)).bind fun t44 =>
    (dExtract 0 t44).bind fun t51 =>
    (dExtract 1 t44).bind fun t52 =>
    (some (t51 : D)).bind fun t11 =>
    (some (t52 : D)).bind fun t12 =>
    (some (t8 : D)).bind fun t53 =>
    (dBin tab .neq ty49 t53 (.int .i64 0)).bind fun t54 =>
    (some (t54 : D)).bind fun t55 =>
    (gd t55 false (some (t10 : D))).bind fun t56 =>
    (gd t55 false (dBin tab .neq ty49 t56 (.int .i64 0))).bind fun t57 =>
    (dPick t55 (.bool true) t57).bind fun t58 =>
    (some (t58 : D)).bind fun t59 =>
    (gd t59 false (some (t12 : D))).bind fun t60 =>
    (gd t59 false (dBin tab .neq ty49 t60 (.int .i64 0))).bind fun t61 =>
    (dPick t59 (.bool true) t61).bind fun t62 =>
    (some (t62 : D)).bind fun t63 =>
    (gd t63 false (dLoad tab p50.2 ty1064 t9)).bind fun t64 =>
    (gd t63 false (some (t3 : D))).bind fun t65 =>
    (gd t63 false (some ((nth 2 ds) : D))).bind fun t66 =>
    (gd t63 false (dIndexAddr tab ty1059 t65 t66)).bind fun t67 =>
    (gd t63 false (dLoad tab p50.2 ty1064 t67)).bind fun t68 =>
    (gdW t63 false p50.2 (R fn1161 [t64, t68] p50.2)).bind fun p69 =>
    (gd t63 false (dUn .not p69.1)).bind fun t70 =>
    (dPick t63 (.bool true) t70).bind fun t71 =>
    dIf t71
      ((some (.bool false : D)).bind fun t2_2 =>
      some (.ret, [t2_2, (nth 1 ds), (nth 2 ds), t7, t8, t9, t10, t11, t12, t28, t71], p69.2))
      ((some (t11 : D)).bind fun t72 =>
    (some (t72 : D)).bind fun t5_1 =>
    (some ((nth 2 ds) : D)).bind fun t29 =>
    (dBin tab .add ty3 t29 (.int .i64 1)).bind fun t30 =>
    (some (t30 : D)).bind fun t6_1 =>
    some (.nrm, [(nth 0 ds), t5_1, t6_1, t7, t8, t9, t10, t11, t12, t28, t71], p69.2)))
      (some ((.ext 0), [(nth 0 ds), (nth 1 ds), (nth 2 ds), (nth 3 ds), (nth 4 ds), (nth 5 ds), (nth 6 ds), (nth 7 ds), (nth 8 ds), t28, (nth 10 ds)], h_1))
/-- a loop: slots 2 15 16 17 92 113 -/
noncomputable def F1157_L1 (t3 : D) (t13 : D) (ds_1 : List D) (h_2 : Hp) : Option Out :=
    (some ((nth 1 ds_1) : D)).bind fun t89 =>
    (some (t13 : D)).bind fun t90 =>
    (dLenT tab ty1031 t90).bind fun t91 =>
    (dBin tab .lss ty3 t89 t91).bind fun t92 =>
    dIf t92
      ((some (t13 : D)).bind fun t96 =>
    (some ((nth 1 ds_1) : D)).bind fun t97 =>
    (dIndexAddr tab ty1031 t96 t97).bind fun t98 =>
    (dLoad tab h_2 ty22 t98).bind fun t99 =>
    (R fn1159 [t99] h_2).bind fun p100 =>
    (some (p100.1 : D)).bind fun t95 =>
    (dExtract 0 t95).bind fun t101 =>
    (dExtract 1 t95).bind fun t102 =>
    (boxN 3 t101).bind fun t16 =>
    (some (t102 : D)).bind fun t17 =>
    (some (t17 : D)).bind fun t103 =>
    (dBin tab .neq ty49 t103 (.int .i64 0)).bind fun t104 =>
    (some (t104 : D)).bind fun t105 =>
    (gd t105 false (dLoad tab p100.2 ty1064 t16)).bind fun t106 =>
    (gd t105 false (some (t3 : D))).bind fun t107 =>
    (gd t105 false (some ((nth 1 ds_1) : D))).bind fun t108 =>
    (gd t105 false (dIndexAddr tab ty1059 t107 t108)).bind fun t109 =>
    (gd t105 false (dLoad tab p100.2 ty1064 t109)).bind fun t110 =>
    (gdW t105 false p100.2 (R fn1161 [t106, t110] p100.2)).bind fun p111 =>
    (gd t105 false (dUn .not p111.1)).bind fun t112 =>
    (dPick t105 (.bool true) t112).bind fun t113 =>
    dIf t113
      ((some (.bool false : D)).bind fun t2_4 =>
      some (.ret, [t2_4, (nth 1 ds_1), t16, t17, t92, t113], p111.2))
      ((some ((nth 1 ds_1) : D)).bind fun t93 =>
    (dBin tab .add ty3 t93 (.int .i64 1)).bind fun t94 =>
    (some (t94 : D)).bind fun t15_1 =>
    some (.nrm, [(nth 0 ds_1), t15_1, t16, t17, t92, t113], p111.2)))
      (some ((.ext 2), [(nth 0 ds_1), (nth 1 ds_1), (nth 2 ds_1), (nth 3 ds_1), t92, (nth 5 ds_1)], h_2))
noncomputable def F1157 (t0 : D) (h : Hp) : Option (D × Hp) :=
  (some (.bool false : D)).bind fun t2 =>
  (R fn1023 [] h).bind fun p18 =>
  (dUn .not p18.1).bind fun t19 =>
  dIf t19
    ((some (.bool false : D)).bind fun t2_1 =>
    ((some (t2_1 : D)).bind fun d => (some ([] : List D)).bind fun ds => some (d :: ds)).bind fun ds => some (mkRes ds, p18.2))
    ((some (t0 : D)).bind fun t21 =>
  (R fn1105 [t21] p18.2).bind fun p22 =>
  (some (p22.1 : D)).bind fun t20 =>
  (dExtract 0 t20).bind fun t23 =>
  (dExtract 1 t20).bind fun t24 =>
  (some (t23 : D)).bind fun t3 =>
  (some (t24 : D)).bind fun t4 =>
  (some (.nils : D)).bind fun t5 =>
  (some (.int .i64 0 : D)).bind fun t6 =>
  ((loopW (F1157_L0 t3) [t2, t5, t6, .any, .any, .any, .any, .any, .any, .any, .any] p22.2).bind fun r =>
    some ((unblk 0 r.1), [(nth 0 r.2.1), (nth 1 r.2.1), (nth 2 r.2.1), (nth 3 r.2.1), (nth 4 r.2.1), (nth 5 r.2.1), (nth 6 r.2.1), (nth 7 r.2.1), (nth 8 r.2.1), (nth 9 r.2.1), (nth 10 r.2.1)], r.2.2)).bind fun r_1 =>
  toEnd r_1.1 ((some ((nth 1 r_1.2.1) : D)).bind fun t74 =>
  (R fn1106 [t74] r_1.2.2).bind fun p75 =>
  (some (p75.1 : D)).bind fun t73 =>
  (dExtract 0 t73).bind fun t76 =>
  (dExtract 1 t73).bind fun t77 =>
  (some (t76 : D)).bind fun t13 =>
  (some (t77 : D)).bind fun t14 =>
  (some (t14 : D)).bind fun t78 =>
  (some ((nth 1 r_1.2.1) : D)).bind fun t79 =>
  (dLenT tab ty22 t79).bind fun t80 =>
  (dBin tab .neq ty3 t78 t80).bind fun t81 =>
  (some (t81 : D)).bind fun t82 =>
  (gd t82 false (some (t13 : D))).bind fun t83 =>
  (gd t82 false (dLenT tab ty1031 t83)).bind fun t84 =>
  (gd t82 false (some (t3 : D))).bind fun t85 =>
  (gd t82 false (dLenT tab ty1059 t85)).bind fun t86 =>
  (gd t82 false (dBin tab .neq ty3 t84 t86)).bind fun t87 =>
  (dPick t82 (.bool true) t87).bind fun t88 =>
  dIf t88
    ((some (.bool false : D)).bind fun t2_3 =>
    ((some (t2_3 : D)).bind fun d => (some ([] : List D)).bind fun ds => some (d :: ds)).bind fun ds => some (mkRes ds, p75.2))
    ((some (.int .i64 0 : D)).bind fun t15 =>
  ((loopW (F1157_L1 t3 t13) [(nth 0 r_1.2.1), t15, .any, .any, .any, .any] p75.2).bind fun r_2 =>
    some ((unblk 2 r_2.1), [(nth 0 r_2.2.1), (nth 1 r_2.2.1), (nth 2 r_2.2.1), (nth 3 r_2.2.1), (nth 4 r_2.2.1), (nth 5 r_2.2.1)], r_2.2.2)).bind fun r_3 =>
  toEnd r_3.1 ((some (.bool true : D)).bind fun t2_5 =>
  ((some (t2_5 : D)).bind fun d => (some ([] : List D)).bind fun ds => some (d :: ds)).bind fun ds => some (mkRes ds, r_3.2.2)) fun x_1 => exEnd x_1 (((some ((nth 0 r_3.2.1) : D)).bind fun d => (some ([] : List D)).bind fun ds => some (d :: ds)).bind fun ds => some (mkRes ds, r_3.2.2)))) fun x => exEnd x (((some ((nth 0 r_1.2.1) : D)).bind fun d => (some ([] : List D)).bind fun ds => some (d :: ds)).bind fun ds => some (mkRes ds, r_1.2.2)))
theorem e1157 (t0 : D) (h : Hp) : R fn1157 [t0] h = F1157 t0 h :=
  (run_fn (X := X) (F := Fs) (fi := i3) (by kernel_rfl) _ _).trans (by kernel_rfl)
noncomputable def F1023 (h : Hp) : Option (D × Hp) :=
  (some (.bool false : D)).bind fun t0 =>
  (pLitF tab ty22 1 [0] [.int .u8 1]).bind fun t4 =>
  (R fn1024 [.nils, t4] h).bind fun p5 =>
  (some (p5.1 : D)).bind fun t3 =>
  (dExtract 0 t3).bind fun t6 =>
  (dExtract 1 t3).bind fun t7 =>
  (some (t6 : D)).bind fun t1 =>
  (some (t7 : D)).bind fun t2 =>
  (some (t2 : D)).bind fun t8 =>
  (dBin tab .eql ty49 t8 (.int .i64 0)).bind fun t9 =>
  (some (t9 : D)).bind fun t10 =>
  (gd t10 true (some (t1 : D))).bind fun t11 =>
  (gd t10 true (dLenT tab ty22 t11)).bind fun t12 =>
  (gd t10 true (dBin tab .eql ty3 t12 (.int .i64 9))).bind fun t13 =>
  (dPick t10 t13 (.bool false)).bind fun t14 =>
  (some (t14 : D)).bind fun t0_1 =>
  ((some (t0_1 : D)).bind fun d => (some ([] : List D)).bind fun ds => some (d :: ds)).bind fun ds => some (mkRes ds, p5.2)
theorem e1023 (h : Hp) : R fn1023 [] h = F1023 h :=
  (run_fn (X := X) (F := Fs) (fi := i4) (by kernel_rfl) _ _).trans (by kernel_rfl)
/-- a loop: slots 6 7 15 -/
noncomputable def F1105_L0 (t5 : D) (ds : List D) (h_1 : Hp) : Option Out :=
    (some ((nth 1 ds) : D)).bind fun t12 =>
    (some (t5 : D)).bind fun t13 =>
    (dLenT tab ty1059 t13).bind fun t14 =>
    (dBin tab .lss ty3 t12 t14).bind fun t15 =>
    dIf t15
      ((some ((nth 0 ds) : D)).bind fun t19 =>
    (some (t5 : D)).bind fun t20 =>
    (some ((nth 1 ds) : D)).bind fun t21 =>
    (dIndexAddr tab ty1059 t20 t21).bind fun t22 =>
    (dLoad tab h_1 ty1064 t22).bind fun t23 =>
    (R fn1109 [t19, t23] h_1).bind fun p24 =>
    (some (p24.1 : D)).bind fun t18 =>
    (dExtract 0 t18).bind fun t25 =>
    (dExtract 1 t18).bind fun t26 =>
    (some (t25 : D)).bind fun t6_1 =>
    (some ((nth 1 ds) : D)).bind fun t16 =>
    (dBin tab .add ty3 t16 (.int .i64 1)).bind fun t17 =>
    (some (t17 : D)).bind fun t7_1 =>
    some (.nrm, [t6_1, t7_1, t15], p24.2))
      (some ((.ext 0), [(nth 0 ds), (nth 1 ds), t15], h_1))
noncomputable def F1105 (t0 : D) (h : Hp) : Option (D × Hp) :=
  (some (.nils : D)).bind fun t2 =>
  (some (.nils : D)).bind fun t3 =>
  (some (t0 : D)).bind fun t8 =>
  (R fn44 [t8, .int .i64 400] h).bind fun p9 =>
  (some (p9.1 : D)).bind fun t4 =>
  (some (t4 : D)).bind fun t10 =>
  (R fn1088 [t10, .int .i64 1, .int .i64 5] p9.2).bind fun p11 =>
  (some (p11.1 : D)).bind fun t5 =>
  (some (.nils : D)).bind fun t6 =>
  (some (.int .i64 0 : D)).bind fun t7 =>
  ((loopW (F1105_L0 t5) [t6, t7, .any] p11.2).bind fun r =>
    some ((unblk 0 r.1), [(nth 0 r.2.1), (nth 1 r.2.1), (nth 2 r.2.1)], r.2.2)).bind fun r_1 =>
  toEnd r_1.1 ((some (t5 : D)).bind fun t27 =>
  (some ((nth 0 r_1.2.1) : D)).bind fun t28 =>
  (some (t27 : D)).bind fun t2_1 =>
  (some (t28 : D)).bind fun t3_1 =>
  ((some (t2_1 : D)).bind fun d => ((some (t3_1 : D)).bind fun d => (some ([] : List D)).bind fun ds => some (d :: ds)).bind fun ds => some (d :: ds)).bind fun ds => some (mkRes ds, r_1.2.2)) fun x => exEnd x (((some (t2 : D)).bind fun d => ((some (t3 : D)).bind fun d => (some ([] : List D)).bind fun ds => some (d :: ds)).bind fun ds => some (d :: ds)).bind fun ds => some (mkRes ds, r_1.2.2))
theorem e1105 (t0 : D) (h : Hp) : R fn1105 [t0] h = F1105 t0 h :=
  (run_fn (X := X) (F := Fs) (fi := i5) (by kernel_rfl) _ _).trans (by kernel_rfl)
/-- a loop: slots 2 3 5 7 8 9 30 31 40 -/
noncomputable def F1158_L0 (t28 : D) (t29 : D) (ds : List D) (h_1 : Hp) : Option Out :=
    (dBin tab .lss ty3 (nth 6 ds) t29).bind fun t31 =>
    dIf t31
      ((dIndexAddr tab ty113 t28 (nth 6 ds)).bind fun t32 =>
    (dLoad tab h_1 ty74 t32).bind fun t33 =>
    (boxN 11 t33).bind fun t7 =>
    (dLoad tab h_1 ty74 t7).bind fun t35 =>
    (R fn1128 [t35] h_1).bind fun p36 =>
    (some (p36.1 : D)).bind fun t34 =>
    (dExtract 0 t34).bind fun t37 =>
    (dExtract 1 t34).bind fun t38 =>
    (some (t37 : D)).bind fun t8 =>
    (some (t38 : D)).bind fun t9 =>
    (some (t9 : D)).bind fun t39 =>
    (dBin tab .neq ty49 t39 (.int .i64 0)).bind fun t40 =>
    dIf t40
      ((some (t9 : D)).bind fun t41 =>
      (some (.nils : D)).bind fun t2_2 =>
      (some (t41 : D)).bind fun t3_2 =>
      some (.ret, [t2_2, t3_2, (nth 2 ds), t7, t8, t9, (nth 6 ds), t31, t40], p36.2))
      ((some ((nth 2 ds) : D)).bind fun t42 =>
    (some (t8 : D)).bind fun t43 =>
    (dAppend tab p36.2 ty22 ty22 t42 t43).bind fun p44 =>
    (some (p44.1 : D)).bind fun t5_1 =>
    (dBin tab .add ty3 (nth 6 ds) (.int .i64 1)).bind fun t45 =>
    (some (t45 : D)).bind fun t30_1 =>
    some (.nrm, [(nth 0 ds), (nth 1 ds), t5_1, t7, t8, t9, t30_1, t31, t40], p44.2)))
      (some ((.ext 0), [(nth 0 ds), (nth 1 ds), (nth 2 ds), (nth 3 ds), (nth 4 ds), (nth 5 ds), (nth 6 ds), t31, (nth 8 ds)], h_1))
noncomputable def F1158 (t0 : D) (h : Hp) : Option (D × Hp) :=
  (pBoxF t0).bind fun t1 =>
  (some (.nils : D)).bind fun t2 =>
  (some (.int .i64 0 : D)).bind fun t3 =>
  (dLoad tab h ty1064 t1).bind fun t10 =>
  (R fn1094 [t10] h).bind fun p11 =>
  (some (p11.1 : D)).bind fun t4 =>
  (some (t4 : D)).bind fun t12 =>
  (dBin tab .neq ty49 t12 (.int .i64 0)).bind fun t13 =>
  dIf t13
    ((some (t4 : D)).bind fun t14 =>
    (some (.nils : D)).bind fun t2_1 =>
    (some (t14 : D)).bind fun t3_1 =>
    ((some (t2_1 : D)).bind fun d => ((some (t3_1 : D)).bind fun d => (some ([] : List D)).bind fun ds => some (d :: ds)).bind fun ds => some (d :: ds)).bind fun ds => scope h p11.2 (mkRes ds))
    ((dFieldAddr tab ty1064 0 t1).bind fun t15 =>
  (dLoad tab p11.2 ty3 t15).bind fun t16 =>
  (R fn1162 [.nils, t16] p11.2).bind fun p17 =>
  (dFieldAddr tab ty1064 1 t1).bind fun t18 =>
  (dLoad tab p17.2 ty3 t18).bind fun t19 =>
  (R fn1162 [p17.1, t19] p17.2).bind fun p20 =>
  (dFieldAddr tab ty1064 2 t1).bind fun t21 =>
  (dLoad tab p20.2 ty113 t21).bind fun t22 =>
  (dLenT tab ty113 t22).bind fun t23 =>
  (dConv tab ty3 ty65 t23).bind fun t24 =>
  (R fn1027 [t24] p20.2).bind fun p25 =>
  (dAppend tab p25.2 ty22 ty22 p20.1 p25.1).bind fun p26 =>
  chk (dLoad tab p11.2 ty3 t18 = some t19)
  (chk (dLoad tab p11.2 ty113 t21 = some t22)
  (chk (dLoad tab p17.2 ty113 t21 = some t22)
  ((some (p26.1 : D)).bind fun t5 =>
  (dFieldAddr tab ty1064 2 t1).bind fun t27 =>
  (dLoad tab p26.2 ty113 t27).bind fun t28 =>
  (dLenT tab ty113 t28).bind fun t29 =>
  (some (.int .i64 0 : D)).bind fun t30 =>
  ((loopW (F1158_L0 t28 t29) [t2, t3, t5, .any, .any, .any, t30, .any, .any] p26.2).bind fun r =>
    some ((unblk 0 r.1), [(nth 0 r.2.1), (nth 1 r.2.1), (nth 2 r.2.1), (nth 3 r.2.1), (nth 4 r.2.1), (nth 5 r.2.1), (nth 6 r.2.1), (nth 7 r.2.1), (nth 8 r.2.1)], r.2.2)).bind fun r_1 =>
  toEnd r_1.1 ((some ((nth 2 r_1.2.1) : D)).bind fun t46 =>
  (some (t46 : D)).bind fun t2_3 =>
  (some (.int .i64 0 : D)).bind fun t3_3 =>
  ((some (t2_3 : D)).bind fun d => ((some (t3_3 : D)).bind fun d => (some ([] : List D)).bind fun ds => some (d :: ds)).bind fun ds => some (d :: ds)).bind fun ds => scope h r_1.2.2 (mkRes ds)) fun x => exEnd x (((some ((nth 0 r_1.2.1) : D)).bind fun d => ((some ((nth 1 r_1.2.1) : D)).bind fun d => (some ([] : List D)).bind fun ds => some (d :: ds)).bind fun ds => some (d :: ds)).bind fun ds => scope h r_1.2.2 (mkRes ds))))))
theorem e1158 (t0 : D) (h : Hp) : R fn1158 [t0] h = F1158 t0 h :=
  (run_fn (X := X) (F := Fs) (fi := i6) (by kernel_rfl) _ _).trans (by kernel_rfl)
/-- a loop: slots 3 5 6 7 8 9 33 43 -/
noncomputable def F1159_L0 (p2 : D × Hp) (p20 : D × Hp) (ds : List D) (h_1 : Hp) : Option Out :=
    (some ((nth 2 ds) : D)).bind fun t27 =>
    (dBin tab .gtr ty65 t27 (.int .u32 0)).bind fun t28 =>
    (some (t28 : D)).bind fun t29 =>
    (gd t29 true (some ((nth 1 ds) : D))).bind fun t30 =>
    (gd t29 true (dLenT tab ty22 t30)).bind fun t31 =>
    (gd t29 true (dBin tab .gtr ty3 t31 (.int .i64 0))).bind fun t32 =>
    (dPick t29 t32 (.bool false)).bind fun t33 =>
    dIf t33
      ((some ((nth 1 ds) : D)).bind fun t37 =>
    (R fn1129 [t37] h_1).bind fun p38 =>
    (some (p38.1 : D)).bind fun t36 =>
    (dExtract 0 t36).bind fun t39 =>
    (dExtract 1 t36).bind fun t40 =>
    (dExtract 2 t36).bind fun t41 =>
    (boxN 11 t39).bind fun t7 =>
    (some (t40 : D)).bind fun t8 =>
    (some (t41 : D)).bind fun t9 =>
    (some (t9 : D)).bind fun t42 =>
    (dBin tab .neq ty49 t42 (.int .i64 0)).bind fun t43 =>
    dIf t43
      ((dBuild tab ty1064 [] []).bind fun t44 =>
      ((dStore tab p38.2 ty1064 p2.1 t44).bind fun h' => some ((.und : D), h')).bind fun p901_1 =>
      (some (.int .i64 22 : D)).bind fun t3_2 =>
      some (.ret, [t3_2, (nth 1 ds), (nth 2 ds), t7, t8, t9, t33, t43], p901_1.2))
      ((dFieldAddr tab ty1064 2 (.ptr p20.2.length 0 0)).bind fun t45 =>
    (dLoad tab p38.2 ty113 t45).bind fun t46 =>
    (dLoad tab p38.2 ty74 t7).bind fun t47 =>
    (pLitF tab ty113 1 [0] [t47]).bind fun t48 =>
    (dAppend tab p38.2 ty113 ty113 t46 t48).bind fun p49 =>
    (some ((nth 1 ds) : D)).bind fun t50 =>
    (some (t8 : D)).bind fun t51 =>
    (dSliceAt tab ty22 true false false [t50, t51]).bind fun t52 =>
    (dFieldAddr tab ty1064 2 (.ptr p20.2.length 0 0)).bind fun t53 =>
    ((dStore tab p49.2 ty113 t53 p49.1).bind fun h' => some ((.und : D), h')).bind fun p909 =>
    (some (t52 : D)).bind fun t5_1 =>
    (some ((nth 2 ds) : D)).bind fun t34 =>
    (dBin tab .sub ty65 t34 (.int .u32 1)).bind fun t35 =>
    (some (t35 : D)).bind fun t6_1 =>
    some (.nrm, [(nth 0 ds), t5_1, t6_1, t7, t8, t9, t33, t43], p909.2)))
      (some ((.ext 0), [(nth 0 ds), (nth 1 ds), (nth 2 ds), (nth 3 ds), (nth 4 ds), (nth 5 ds), t33, (nth 7 ds)], h_1))
noncomputable def F1159 (t0 : D) (h : Hp) : Option (D × Hp) :=
  (some ((.ptr h.length 0 0 : D), dNew h ty1064 3 [[.int .i64 0, .int .i64 0, .nils]])).bind fun p2 =>
  (some (.int .i64 0 : D)).bind fun t3 =>
  (some (t0 : D)).bind fun t12 =>
  (dLenT tab ty22 t12).bind fun t13 =>
  (dBin tab .lss ty3 t13 (.int .i64 20)).bind fun t14 =>
  dIf t14
    ((dBuild tab ty1064 [] []).bind fun t15 =>
    ((dStore tab p2.2 ty1064 p2.1 t15).bind fun h' => some ((.und : D), h')).bind fun p901 =>
    (some (.int .i64 22 : D)).bind fun t3_1 =>
    ((some (p2.1 : D)).bind fun p => (dLoad tab p901.2 ty1064 p).bind fun d => ((some (t3_1 : D)).bind fun d => (some ([] : List D)).bind fun ds => some (d :: ds)).bind fun ds => some (d :: ds)).bind fun ds => scope h p901.2 (mkRes ds))
    ((some (t0 : D)).bind fun t16 =>
  (R fn1163 [t16] p2.2).bind fun p17 =>
  (some (t0 : D)).bind fun t18 =>
  (dSliceAt tab ty22 true false false [t18, .int .i64 8]).bind fun t19 =>
  (R fn1163 [t19] p17.2).bind fun p20 =>
  (dBuild tab ty1064 [0, 1] [p17.1, p20.1]).bind fun t21 =>
  (some (.any : D)).bind fun t4 =>
  ((dStore tab (dNew p20.2 ty1064 3 [[.int .i64 0, .int .i64 0, .nils]]) ty1064 (.ptr p20.2.length 0 0) t21).bind fun h' => some ((.und : D), h')).bind fun p907 =>
  (some (t0 : D)).bind fun t22 =>
  (dSliceAt tab ty22 true false false [t22, .int .i64 20]).bind fun t23 =>
  (some (t23 : D)).bind fun t5 =>
  (some (t0 : D)).bind fun t24 =>
  (dSliceAt tab ty22 true false false [t24, .int .i64 16]).bind fun t25 =>
  (R fn1110 [t25] p907.2).bind fun p26 =>
  (some (p26.1 : D)).bind fun t6 =>
  ((loopW (F1159_L0 p2 p20) [t3, t5, t6, .any, .any, .any, .any, .any] p26.2).bind fun r =>
    some ((unblk 0 r.1), [(nth 0 r.2.1), (nth 1 r.2.1), (nth 2 r.2.1), (nth 3 r.2.1), (nth 4 r.2.1), (nth 5 r.2.1), (nth 6 r.2.1), (nth 7 r.2.1)], r.2.2)).bind fun r_1 =>
  toEnd r_1.1 ((dLoad tab r_1.2.2 ty1064 (.ptr p20.2.length 0 0)).bind fun t55 =>
  (R fn1158 [t55] r_1.2.2).bind fun p56 =>
  (some (p56.1 : D)).bind fun t54 =>
  (dExtract 0 t54).bind fun t57 =>
  (dExtract 1 t54).bind fun t58 =>
  (some (t57 : D)).bind fun t10 =>
  (some (t58 : D)).bind fun t11 =>
  (some (t11 : D)).bind fun t59 =>
  (dBin tab .neq ty49 t59 (.int .i64 0)).bind fun t60 =>
  (some (t60 : D)).bind fun t61 =>
  (gd t61 false (some (t10 : D))).bind fun t62 =>
  (gd t61 false (some (t0 : D))).bind fun t63 =>
  (gdW t61 false p56.2 (R fn1164 [t62, t63] p56.2)).bind fun p64 =>
  (gd t61 false (dUn .not p64.1)).bind fun t65 =>
  (dPick t61 (.bool true) t65).bind fun t66 =>
  dIf t66
    ((dBuild tab ty1064 [] []).bind fun t67 =>
    ((dStore tab p64.2 ty1064 p2.1 t67).bind fun h' => some ((.und : D), h')).bind fun p901_2 =>
    (some (.int .i64 22 : D)).bind fun t3_3 =>
    ((some (p2.1 : D)).bind fun p => (dLoad tab p901_2.2 ty1064 p).bind fun d => ((some (t3_3 : D)).bind fun d => (some ([] : List D)).bind fun ds => some (d :: ds)).bind fun ds => some (d :: ds)).bind fun ds => scope h p901_2.2 (mkRes ds))
    ((dLoad tab p64.2 ty1064 (.ptr p20.2.length 0 0)).bind fun t68 =>
  ((dStore tab p64.2 ty1064 p2.1 t68).bind fun h' => some ((.und : D), h')).bind fun p901_3 =>
  (some (.int .i64 0 : D)).bind fun t3_4 =>
  ((some (p2.1 : D)).bind fun p => (dLoad tab p901_3.2 ty1064 p).bind fun d => ((some (t3_4 : D)).bind fun d => (some ([] : List D)).bind fun ds => some (d :: ds)).bind fun ds => some (d :: ds)).bind fun ds => scope h p901_3.2 (mkRes ds))) fun x => exEnd x (((some (p2.1 : D)).bind fun p => (dLoad tab r_1.2.2 ty1064 p).bind fun d => ((some ((nth 0 r_1.2.1) : D)).bind fun d => (some ([] : List D)).bind fun ds => some (d :: ds)).bind fun ds => some (d :: ds)).bind fun ds => scope h r_1.2.2 (mkRes ds)))
theorem e1159 (t0 : D) (h : Hp) : R fn1159 [t0] h = F1159 t0 h :=
  (run_fn (X := X) (F := Fs) (fi := i7) (by kernel_rfl) _ _).trans (by kernel_rfl)
noncomputable def F1160 (t0 : D) (t1 : D) (h : Hp) : Option (D × Hp) :=
  (pBoxF t1).bind fun t3 =>
  (some (.nils : D)).bind fun t4 =>
  (some (.int .i64 0 : D)).bind fun t5 =>
  (dLoad tab h ty1064 t3).bind fun t9 =>
  (R fn1158 [t9] h).bind fun p10 =>
  (some (p10.1 : D)).bind fun t8 =>
  (dExtract 0 t8).bind fun t11 =>
  (dExtract 1 t8).bind fun t12 =>
  (some (t11 : D)).bind fun t6 =>
  (some (t12 : D)).bind fun t7 =>
  (some (t7 : D)).bind fun t13 =>
  (dBin tab .neq ty49 t13 (.int .i64 0)).bind fun t14 =>
  dIf t14
    ((some (t7 : D)).bind fun t15 =>
    (some (.nils : D)).bind fun t4_1 =>
    (some (t15 : D)).bind fun t5_1 =>
    ((some (t4_1 : D)).bind fun d => ((some (t5_1 : D)).bind fun d => (some ([] : List D)).bind fun ds => some (d :: ds)).bind fun ds => some (d :: ds)).bind fun ds => some (mkRes ds, p10.2))
    ((some (t0 : D)).bind fun t16 =>
  (some (t6 : D)).bind fun t17 =>
  (R fn1024 [t16, t17] p10.2).bind fun p18 =>
  (dExtract 0 p18.1).bind fun t19 =>
  (dExtract 1 p18.1).bind fun t20 =>
  (some (t19 : D)).bind fun t4_2 =>
  (some (t20 : D)).bind fun t5_2 =>
  ((some (t4_2 : D)).bind fun d => ((some (t5_2 : D)).bind fun d => (some ([] : List D)).bind fun ds => some (d :: ds)).bind fun ds => some (d :: ds)).bind fun ds => some (mkRes ds, p18.2))
theorem e1160 (t0 : D) (t1 : D) (h : Hp) : R fn1160 [t0, t1] h = F1160 t0 t1 h :=
  (run_fn (X := X) (F := Fs) (fi := i8) (by kernel_rfl) _ _).trans (by kernel_rfl)
/-- a loop: slots 4 5 31 45 -/
noncomputable def F1161_L0 (t2 : D) (t3 : D) (ds : List D) (h_1 : Hp) : Option Out :=
    (some ((nth 1 ds) : D)).bind fun t27 =>
    (dFieldAddr tab ty1064 2 t2).bind fun t28 =>
    (dLoad tab h_1 ty113 t28).bind fun t29 =>
    (dLenT tab ty113 t29).bind fun t30 =>
    (dBin tab .lss ty3 t27 t30).bind fun t31 =>
    dIf t31
      ((dFieldAddr tab ty1064 2 t2).bind fun t34 =>
    (dLoad tab h_1 ty113 t34).bind fun t35 =>
    (some ((nth 1 ds) : D)).bind fun t36 =>
    (dIndexAddr tab ty113 t35 t36).bind fun t37 =>
    (dLoad tab h_1 ty74 t37).bind fun t38 =>
    (dFieldAddr tab ty1064 2 t3).bind fun t39 =>
    (dLoad tab h_1 ty113 t39).bind fun t40 =>
    (some ((nth 1 ds) : D)).bind fun t41 =>
    (dIndexAddr tab ty113 t40 t41).bind fun t42 =>
    (dLoad tab h_1 ty74 t42).bind fun t43 =>
    (R fn82 [t38, t43] h_1).bind fun p44 =>
    (dUn .not p44.1).bind fun t45 =>
    dIf t45
      ((some (.bool false : D)).bind fun t4_2 =>
      some (.ret, [t4_2, (nth 1 ds), t31, t45], p44.2))
      ((some ((nth 1 ds) : D)).bind fun t32 =>
    (dBin tab .add ty3 t32 (.int .i64 1)).bind fun t33 =>
    (some (t33 : D)).bind fun t5_1 =>
    some (.nrm, [(nth 0 ds), t5_1, t31, t45], p44.2)))
      (some ((.ext 0), [(nth 0 ds), (nth 1 ds), t31, (nth 3 ds)], h_1))
noncomputable def F1161 (t0 : D) (t1 : D) (h : Hp) : Option (D × Hp) :=
  (pBoxF t0).bind fun t2 =>
  (pBoxF t1).bind fun t3 =>
  (some (.bool false : D)).bind fun t4 =>
  (dFieldAddr tab ty1064 0 t2).bind fun t6 =>
  (dLoad tab h ty3 t6).bind fun t7 =>
  (dFieldAddr tab ty1064 0 t3).bind fun t8 =>
  (dLoad tab h ty3 t8).bind fun t9 =>
  (dBin tab .neq ty3 t7 t9).bind fun t10 =>
  (some (t10 : D)).bind fun t11 =>
  (gd t11 false (dFieldAddr tab ty1064 1 t2)).bind fun t12 =>
  (gd t11 false (dLoad tab h ty3 t12)).bind fun t13 =>
  (gd t11 false (dFieldAddr tab ty1064 1 t3)).bind fun t14 =>
  (gd t11 false (dLoad tab h ty3 t14)).bind fun t15 =>
  (gd t11 false (dBin tab .neq ty3 t13 t15)).bind fun t16 =>
  (dPick t11 (.bool true) t16).bind fun t17 =>
  (some (t17 : D)).bind fun t18 =>
  (gd t18 false (dFieldAddr tab ty1064 2 t2)).bind fun t19 =>
  (gd t18 false (dLoad tab h ty113 t19)).bind fun t20 =>
  (gd t18 false (dLenT tab ty113 t20)).bind fun t21 =>
  (gd t18 false (dFieldAddr tab ty1064 2 t3)).bind fun t22 =>
  (gd t18 false (dLoad tab h ty113 t22)).bind fun t23 =>
  (gd t18 false (dLenT tab ty113 t23)).bind fun t24 =>
  (gd t18 false (dBin tab .neq ty3 t21 t24)).bind fun t25 =>
  (dPick t18 (.bool true) t25).bind fun t26 =>
  dIf t26
    ((some (.bool false : D)).bind fun t4_1 =>
    ((some (t4_1 : D)).bind fun d => (some ([] : List D)).bind fun ds => some (d :: ds)).bind fun ds => some (mkRes ds, h))
    ((some (.int .i64 0 : D)).bind fun t5 =>
  ((loopW (F1161_L0 t2 t3) [t4, t5, .any, .any] h).bind fun r =>
    some ((unblk 0 r.1), [(nth 0 r.2.1), (nth 1 r.2.1), (nth 2 r.2.1), (nth 3 r.2.1)], r.2.2)).bind fun r_1 =>
  toEnd r_1.1 ((some (.bool true : D)).bind fun t4_3 =>
  ((some (t4_3 : D)).bind fun d => (some ([] : List D)).bind fun ds => some (d :: ds)).bind fun ds => some (mkRes ds, r_1.2.2)) fun x => exEnd x (((some ((nth 0 r_1.2.1) : D)).bind fun d => (some ([] : List D)).bind fun ds => some (d :: ds)).bind fun ds => some (mkRes ds, r_1.2.2)))
theorem e1161 (t0 : D) (t1 : D) (h : Hp) : R fn1161 [t0, t1] h = F1161 t0 t1 h :=
  (run_fn (X := X) (F := Fs) (fi := i9) (by kernel_rfl) _ _).trans (by kernel_rfl)
/-- a loop: slots 4 5 6 7 8 9 14 40 60 -/
noncomputable def F1106_L0 (t0 : D) (ds : List D) (h_1 : Hp) : Option Out :=
    (some (t0 : D)).bind fun t10 =>
    (dLenT tab ty22 t10).bind fun t11 =>
    (some ((nth 1 ds) : D)).bind fun t12 =>
    (dBin tab .sub ty3 t11 t12).bind fun t13 =>
    (dBin tab .geq ty3 t13 (.int .i64 8)).bind fun t14 =>
    dIf t14
      ((some (t0 : D)).bind fun t15 =>
    (some ((nth 1 ds) : D)).bind fun t16 =>
    (some ((nth 1 ds) : D)).bind fun t17 =>
    (dBin tab .add ty3 t17 (.int .i64 4)).bind fun t18 =>
    (some ((nth 1 ds) : D)).bind fun t19 =>
    (dBin tab .add ty3 t19 (.int .i64 4)).bind fun t20 =>
    (dCut tab h_1 ty22 true true [t15, t16, t18, t20]).bind fun p21 =>
    (some (p21.1 : D)).bind fun t6 =>
    (some (t6 : D)).bind fun t22 =>
    (R fn1110 [t22] p21.2).bind fun p23 =>
    (dConv tab ty65 ty3 p23.1).bind fun t24 =>
    (some (t24 : D)).bind fun t7 =>
    (some ((nth 1 ds) : D)).bind fun t25 =>
    (dBin tab .add ty3 t25 (.int .i64 8)).bind fun t26 =>
    (some (t26 : D)).bind fun t8 =>
    (some (t7 : D)).bind fun t27 =>
    (dBin tab .lss ty3 t27 (.int .i64 1)).bind fun t28 =>
    (some (t28 : D)).bind fun t29 =>
    (gd t29 false (some (t7 : D))).bind fun t30 =>
    (gd t29 false (dBin tab .gtr ty3 t30 (.int .i64 8388608))).bind fun t31 =>
    (dPick t29 (.bool true) t31).bind fun t32 =>
    (some (t32 : D)).bind fun t33 =>
    (gd t33 false (some (t7 : D))).bind fun t34 =>
    (gd t33 false (some (t0 : D))).bind fun t35 =>
    (gd t33 false (dLenT tab ty22 t35)).bind fun t36 =>
    (gd t33 false (some (t8 : D))).bind fun t37 =>
    (gd t33 false (dBin tab .sub ty3 t36 t37)).bind fun t38 =>
    (gd t33 false (dBin tab .gtr ty3 t34 t38)).bind fun t39 =>
    (dPick t33 (.bool true) t39).bind fun t40 =>
    dIf t40
      (some ((.ext 0), [(nth 0 ds), (nth 1 ds), t6, t7, t8, (nth 5 ds), t14, t40, (nth 8 ds)], p23.2))
      ((some (t0 : D)).bind fun t41 =>
    (some (t8 : D)).bind fun t42 =>
    (some (t8 : D)).bind fun t43 =>
    (some (t7 : D)).bind fun t44 =>
    (dBin tab .add ty3 t43 t44).bind fun t45 =>
    (some (t8 : D)).bind fun t46 =>
    (some (t7 : D)).bind fun t47 =>
    (dBin tab .add ty3 t46 t47).bind fun t48 =>
    (dCut tab p23.2 ty22 true true [t41, t42, t45, t48]).bind fun p49 =>
    (some (p49.1 : D)).bind fun t9 =>
    (some (t0 : D)).bind fun t50 =>
    (some ((nth 1 ds) : D)).bind fun t51 =>
    (dBin tab .add ty3 t51 (.int .i64 4)).bind fun t52 =>
    (some (t8 : D)).bind fun t53 =>
    (some (t8 : D)).bind fun t54 =>
    (dCut tab p49.2 ty22 true true [t50, t52, t53, t54]).bind fun p55 =>
    (R fn1110 [p55.1] p55.2).bind fun p56 =>
    (some (t6 : D)).bind fun t57 =>
    (some (t9 : D)).bind fun t58 =>
    (R fn1029 [t57, t58] p56.2).bind fun p59 =>
    (dBin tab .neq ty65 p56.1 p59.1).bind fun t60 =>
    dIf t60
      (some ((.ext 0), [(nth 0 ds), (nth 1 ds), t6, t7, t8, t9, t14, t40, t60], p59.2))
      ((some ((nth 0 ds) : D)).bind fun t61 =>
    (some (t9 : D)).bind fun t62 =>
    (pLitF tab ty1031 1 [0] [t62]).bind fun t63 =>
    (dAppend tab p59.2 ty1031 ty1031 t61 t63).bind fun p64 =>
    (some (p64.1 : D)).bind fun t4_1 =>
    (some (t8 : D)).bind fun t65 =>
    (some (t7 : D)).bind fun t66 =>
    (dBin tab .add ty3 t65 t66).bind fun t67 =>
    (some (t67 : D)).bind fun t5_1 =>
    some (.nrm, [t4_1, t5_1, t6, t7, t8, t9, t14, t40, t60], p64.2))))
      (some ((.ext 0), [(nth 0 ds), (nth 1 ds), (nth 2 ds), (nth 3 ds), (nth 4 ds), (nth 5 ds), t14, (nth 7 ds), (nth 8 ds)], h_1))
noncomputable def F1106 (t0 : D) (h : Hp) : Option (D × Hp) :=
  (some (.nils : D)).bind fun t2 =>
  (some (.int .i64 0 : D)).bind fun t3 =>
  (some (.nils : D)).bind fun t4 =>
  (some (.int .i64 0 : D)).bind fun t5 =>
  ((loopW (F1106_L0 t0) [t4, t5, .any, .any, .any, .any, .any, .any, .any] h).bind fun r =>
    some ((unblk 0 r.1), [(nth 0 r.2.1), (nth 1 r.2.1), (nth 2 r.2.1), (nth 3 r.2.1), (nth 4 r.2.1), (nth 5 r.2.1), (nth 6 r.2.1), (nth 7 r.2.1), (nth 8 r.2.1)], r.2.2)).bind fun r_1 =>
  toEnd r_1.1 ((some ((nth 0 r_1.2.1) : D)).bind fun t68 =>
  (some ((nth 1 r_1.2.1) : D)).bind fun t69 =>
  (some (t68 : D)).bind fun t2_1 =>
  (some (t69 : D)).bind fun t3_1 =>
  ((some (t2_1 : D)).bind fun d => ((some (t3_1 : D)).bind fun d => (some ([] : List D)).bind fun ds => some (d :: ds)).bind fun ds => some (d :: ds)).bind fun ds => scope h r_1.2.2 (mkRes ds)) fun x => exEnd x (((some (t2 : D)).bind fun d => ((some (t3 : D)).bind fun d => (some ([] : List D)).bind fun ds => some (d :: ds)).bind fun ds => some (d :: ds)).bind fun ds => scope h r_1.2.2 (mkRes ds))
theorem e1106 (t0 : D) (h : Hp) : R fn1106 [t0] h = F1106 t0 h :=
  (run_fn (X := X) (F := Fs) (fi := i10) (by kernel_rfl) _ _).trans (by kernel_rfl)
noncomputable def F1024 (t0 : D) (t1 : D) (h : Hp) : Option (D × Hp) :=
  (some (.nils : D)).bind fun t4 =>
  (some (.int .i64 0 : D)).bind fun t5 =>
  (some (t1 : D)).bind fun t8 =>
  (dLenT tab ty22 t8).bind fun t9 =>
  (dBin tab .eql ty3 t9 (.int .i64 0)).bind fun t10 =>
  (some (t10 : D)).bind fun t11 =>
  (gd t11 false (some (t1 : D))).bind fun t12 =>
  (gd t11 false (dLenT tab ty22 t12)).bind fun t13 =>
  (gd t11 false (dBin tab .gtr ty3 t13 (.int .i64 8388608))).bind fun t14 =>
  (dPick t11 (.bool true) t14).bind fun t15 =>
  (some (t15 : D)).bind fun t7 =>
  dIf t7
    ((some (.nils : D)).bind fun t4_1 =>
    (some (.int .i64 3 : D)).bind fun t5_1 =>
    ((some (t4_1 : D)).bind fun d => ((some (t5_1 : D)).bind fun d => (some ([] : List D)).bind fun ds => some (d :: ds)).bind fun ds => some (d :: ds)).bind fun ds => scope h h (mkRes ds))
    ((some (t0 : D)).bind fun t17 =>
    (dLenT tab ty22 t17).bind fun t18 =>
    (dBin tab .add ty3 t18 (.int .i64 8)).bind fun t19 =>
    (some (t1 : D)).bind fun t20 =>
    (dLenT tab ty22 t20).bind fun t21 =>
    (dBin tab .add ty3 t19 t21).bind fun t22 =>
    (dBin tab .gtr ty3 t22 (.int .i64 67108864)).bind fun t23 =>
    (some (t23 : D)).bind fun t16 =>
    dIf t16
      ((some (.nils : D)).bind fun t4_2 =>
      (some (.int .i64 16 : D)).bind fun t5_2 =>
      ((some (t4_2 : D)).bind fun d => ((some (t5_2 : D)).bind fun d => (some ([] : List D)).bind fun ds => some (d :: ds)).bind fun ds => some (d :: ds)).bind fun ds => scope h h (mkRes ds))
      ((some (t1 : D)).bind fun t24 =>
  (dLenT tab ty22 t24).bind fun t25 =>
  (dConv tab ty3 ty65 t25).bind fun t26 =>
  (R fn1027 [t26] h).bind fun p27 =>
  (some (p27.1 : D)).bind fun t6 =>
  (some (t0 : D)).bind fun t28 =>
  (some (t6 : D)).bind fun t29 =>
  (some (t6 : D)).bind fun t30 =>
  (some (t1 : D)).bind fun t31 =>
  (R fn1029 [t30, t31] p27.2).bind fun p32 =>
  (R fn1027 [p32.1] p32.2).bind fun p33 =>
  (some (t1 : D)).bind fun t34 =>
  (pLitF tab ty1031 4 [0, 1, 2, 3] [t28, t29, p33.1, t34]).bind fun t35 =>
  (R fn1028 [t35] p33.2).bind fun p36 =>
  (some (p36.1 : D)).bind fun t4_3 =>
  (some (.int .i64 0 : D)).bind fun t5_3 =>
  ((some (t4_3 : D)).bind fun d => ((some (t5_3 : D)).bind fun d => (some ([] : List D)).bind fun ds => some (d :: ds)).bind fun ds => some (d :: ds)).bind fun ds => scope h p36.2 (mkRes ds)))
theorem e1024 (t0 : D) (t1 : D) (h : Hp) : R fn1024 [t0, t1] h = F1024 t0 t1 h :=
  (run_fn (X := X) (F := Fs) (fi := i11) (by kernel_rfl) _ _).trans (by kernel_rfl)
noncomputable def F44 (t0 : D) (t1 : D) (h : Hp) : Option (D × Hp) :=
  (some (.nilp : D)).bind fun t4 =>
  (some (t0 : D)).bind fun t5 =>
  (some (t0 : D)).bind fun t6 =>
  (dLenT tab ty22 t6).bind fun t7 =>
  (some (t1 : D)).bind fun t8 =>
  (dMin t7 t8).bind fun t9 =>
  (dSliceAt tab ty22 false true false [t5, t9]).bind fun t10 =>
  (dBuild tab ty101 [0] [t10]).bind fun t11 =>
  (wBox ty101 2 h t11).bind fun p12 =>
  (some (p12.1 : D)).bind fun t4_1 =>
  ((some (t4_1 : D)).bind fun d => (some ([] : List D)).bind fun ds => some (d :: ds)).bind fun ds => some (mkRes ds, p12.2)
theorem e44 (t0 : D) (t1 : D) (h : Hp) : R fn44 [t0, t1] h = F44 t0 t1 h :=
  (run_fn (X := X) (F := Fs) (fi := i12) (by kernel_rfl) _ _).trans (by kernel_rfl)
/-- a loop: slots 12 13 14 33 49 61 62 68 82 116 -/
noncomputable def F1088_L1 (t0 : D) (t7 : D) (t8 : D) (p11 : D × Hp) (ds_1 : List D) (h_2 : Hp) : Option Out :=
    (some ((nth 0 ds_1) : D)).bind fun t32 =>
    (dBin tab .gtr ty3 t32 (.int .i64 0)).bind fun t33 =>
    dIf t33
      (((some (t0 : D)).bind fun t36 =>
      (some (t7 : D)).bind fun t37 =>
      (dLenT tab ty111 t37).bind fun t38 =>
      (R fn24 [t36, t38] h_2).bind fun p39 =>
      (some (p39.1 : D)).bind fun t13 =>
      (some (t8 : D)).bind fun t40 =>
      (some (t13 : D)).bind fun t41 =>
      (dIndexAddr tab ty82 t40 t41).bind fun t42 =>
      (dLoad tab p39.2 ty3 t42).bind fun t43 =>
      (some (t7 : D)).bind fun t44 =>
      (some (t13 : D)).bind fun t45 =>
      (dIndexAddr tab ty111 t44 t45).bind fun t46 =>
      (dLoad tab p39.2 ty113 t46).bind fun t47 =>
      (dLenT tab ty113 t47).bind fun t48 =>
      (dBin tab .geq ty3 t43 t48).bind fun t49 =>
      dIf t49
        (some (.nrm, [t13, (nth 2 ds_1), t49, (nth 5 ds_1), (nth 6 ds_1), (nth 7 ds_1), (nth 8 ds_1), (nth 9 ds_1)], p39.2))
        ((some (t7 : D)).bind fun t50 =>
      (some (t13 : D)).bind fun t51 =>
      (dIndexAddr tab ty111 t50 t51).bind fun t52 =>
      (dLoad tab p39.2 ty113 t52).bind fun t53 =>
      (some (t8 : D)).bind fun t54 =>
      (some (t13 : D)).bind fun t55 =>
      (dIndexAddr tab ty82 t54 t55).bind fun t56 =>
      (dLoad tab p39.2 ty3 t56).bind fun t57 =>
      (dIndexAddr tab ty113 t53 t57).bind fun t58 =>
      (dLoad tab p39.2 ty74 t58).bind fun t59 =>
      (some ((.ptr p39.2.length 0 0 : D), dNew p39.2 ty74 11 [[.str [], .int .i64 0, .int .i64 0, .int .i64 0, .int .i64 0, .nils, .int .i64 0, .int .i64 0, .str [], .str [], .nils]])).bind fun p14 =>
      chk (dLoad tab p14.2 ty113 t52 = some t53)
      (chk (dLoad tab p14.2 ty3 t56 = some t57)
      (chk (dLoad tab p14.2 ty74 t58 = some t59)
      (((dStore tab p14.2 ty74 p14.1 t59).bind fun h' => some ((.und : D), h')).bind fun p911 =>
      (some (t0 : D)).bind fun t60 =>
      (R fn24 [t60, .int .i64 8] p911.2).bind fun p61 =>
      (dBin tab .eql ty3 p61.1 (.int .i64 6)).bind fun t63 =>
      (some (t63 : D)).bind fun t62 =>
      (dIf t62
        ((some (t8 : D)).bind fun t64 =>
        (some (t13 : D)).bind fun t65 =>
        (dIndexAddr tab ty82 t64 t65).bind fun t66 =>
        (dLoad tab p61.2 ty3 t66).bind fun t67 =>
        (dBin tab .gtr ty3 t67 (.int .i64 0)).bind fun t68 =>
        (dIf t68
          ((some (t7 : D)).bind fun t69 =>
          (some (t13 : D)).bind fun t70 =>
          (dIndexAddr tab ty111 t69 t70).bind fun t71 =>
          (dLoad tab p61.2 ty113 t71).bind fun t72 =>
          (some (t8 : D)).bind fun t73 =>
          (some (t13 : D)).bind fun t74 =>
          (dIndexAddr tab ty82 t73 t74).bind fun t75 =>
          (dLoad tab p61.2 ty3 t75).bind fun t76 =>
          (dBin tab .sub ty3 t76 (.int .i64 1)).bind fun t77 =>
          (dIndexAddr tab ty113 t72 t77).bind fun t78 =>
          (dLoad tab p61.2 ty74 t78).bind fun t79 =>
          (dLoad tab p61.2 ty74 p14.1).bind fun t80 =>
          (R fn1093 [t79, t80] p61.2).bind fun p81 =>
          ((dStore tab p81.2 ty74 p14.1 p81.1).bind fun h' => some ((.und : D), h')).bind fun p913 =>
          some (.nrm, ([] : List D), p913.2))
          (some (.nrm, ([] : List D), p61.2))).bind fun r_2 =>
        some (r_2.1, [t68, (nth 8 ds_1)], r_2.2.2))
        ((dBin tab .eql ty3 p61.1 (.int .i64 7)).bind fun t83 =>
        (some (t83 : D)).bind fun t82 =>
        dIf t82
          ((some (t7 : D)).bind fun t84 =>
          (some (t13 : D)).bind fun t85 =>
          (dIndexAddr tab ty111 t84 t85).bind fun t86 =>
          (dLoad tab p61.2 ty113 t86).bind fun t87 =>
          (some (t8 : D)).bind fun t88 =>
          (some (t13 : D)).bind fun t89 =>
          (dIndexAddr tab ty82 t88 t89).bind fun t90 =>
          (dLoad tab p61.2 ty3 t90).bind fun t91 =>
          (dBin tab .add ty3 t91 (.int .i64 1)).bind fun t92 =>
          (some (t7 : D)).bind fun t93 =>
          (some (t13 : D)).bind fun t94 =>
          (dIndexAddr tab ty111 t93 t94).bind fun t95 =>
          (dLoad tab p61.2 ty113 t95).bind fun t96 =>
          (dLenT tab ty113 t96).bind fun t97 =>
          (dBin tab .sub ty3 t97 (.int .i64 1)).bind fun t98 =>
          (dMin t92 t98).bind fun t99 =>
          (dIndexAddr tab ty113 t87 t99).bind fun t100 =>
          (dLoad tab p61.2 ty74 t100).bind fun t101 =>
          ((dStore tab p61.2 ty74 p14.1 t101).bind fun h' => some ((.und : D), h')).bind fun p918 =>
          (dFieldAddr tab ty1064 2 p11.1).bind fun t102 =>
          (dLoad tab p918.2 ty113 t102).bind fun t103 =>
          (dLoad tab p918.2 ty74 p14.1).bind fun t104 =>
          (pLitF tab ty113 1 [0] [t104]).bind fun t105 =>
          (dAppend tab p918.2 ty113 ty113 t103 t105).bind fun p106 =>
          (dFieldAddr tab ty1064 2 p11.1).bind fun t107 =>
          ((dStore tab p106.2 ty113 t107 p106.1).bind fun h' => some ((.und : D), h')).bind fun p906 =>
          some ((.ext 3), [(nth 7 ds_1), t82], p906.2))
          (some (.nrm, [(nth 7 ds_1), t82], p61.2)))).bind fun r_3 =>
      toEnd (unblk 4 r_3.1) ((dFieldAddr tab ty1064 2 p11.1).bind fun t108 =>
      (dLoad tab r_3.2.2 ty113 t108).bind fun t109 =>
      (dLoad tab r_3.2.2 ty74 p14.1).bind fun t110 =>
      (pLitF tab ty113 1 [0] [t110]).bind fun t111 =>
      (dAppend tab r_3.2.2 ty113 ty113 t109 t111).bind fun p112 =>
      (dFieldAddr tab ty1064 2 p11.1).bind fun t113 =>
      ((dStore tab p112.2 ty113 t113 p112.1).bind fun h' => some ((.und : D), h')).bind fun p906_1 =>
      (some (t0 : D)).bind fun t114 =>
      (R fn24 [t114, .int .i64 4] p906_1.2).bind fun p115 =>
      (dBin tab .gtr ty3 p115.1 (.int .i64 0)).bind fun t116 =>
      (dIf t116
        ((some (t8 : D)).bind fun t117 =>
        (some (t13 : D)).bind fun t118 =>
        (dIndexAddr tab ty82 t117 t118).bind fun t119 =>
        (dLoad tab p115.2 ty3 t119).bind fun t120 =>
        (dBin tab .add ty3 t120 (.int .i64 1)).bind fun t121 =>
        (dIndexAddr tab ty82 t117 t118).bind fun t122 =>
        ((dStore tab p115.2 ty3 t122 t121).bind fun h' => some ((.und : D), h')).bind fun p906_2 =>
        some (.nrm, ([] : List D), p906_2.2))
        (some (.nrm, ([] : List D), p115.2))).bind fun r_4 =>
      some ((unblk 3 r_4.1), [t13, p14.1, t49, p61.1, t62, (nth 0 r_3.2.1), (nth 1 r_3.2.1), t116], r_4.2.2)) fun x => some ((unblk 3 x), [t13, p14.1, t49, p61.1, t62, (nth 0 r_3.2.1), (nth 1 r_3.2.1), (nth 9 ds_1)], r_3.2.2)))))).bind fun r_5 =>
    toEnd r_5.1 ((some ((nth 0 ds_1) : D)).bind fun t34 =>
    (dBin tab .sub ty3 t34 (.int .i64 1)).bind fun t35 =>
    (some (t35 : D)).bind fun t12_1 =>
    some (.nrm, [t12_1, (nth 0 r_5.2.1), (nth 1 r_5.2.1), t33, (nth 2 r_5.2.1), (nth 3 r_5.2.1), (nth 4 r_5.2.1), (nth 5 r_5.2.1), (nth 6 r_5.2.1), (nth 7 r_5.2.1)], r_5.2.2)) fun x_1 => some (x_1, [(nth 0 ds_1), (nth 0 r_5.2.1), (nth 1 r_5.2.1), t33, (nth 2 r_5.2.1), (nth 3 r_5.2.1), (nth 4 r_5.2.1), (nth 5 r_5.2.1), (nth 6 r_5.2.1), (nth 7 r_5.2.1)], r_5.2.2))
      (some ((.ext 2), [(nth 0 ds_1), (nth 1 ds_1), (nth 2 ds_1), t33, (nth 4 ds_1), (nth 5 ds_1), (nth 6 ds_1), (nth 7 ds_1), (nth 8 ds_1), (nth 9 ds_1)], h_2))
/-- a loop: slots 9 10 11 12 13 14 23 33 49 61 62 68 82 116 134 -/
noncomputable def F1088_L0 (t0 : D) (t1 : D) (t7 : D) (t8 : D) (ds : List D) (h_1 : Hp) : Option Out :=
    (some ((nth 1 ds) : D)).bind fun t22 =>
    (dBin tab .lss ty3 t22 (.int .i64 12)).bind fun t23 =>
    dIf t23
      ((some (t1 : D)).bind fun t26 =>
    (some ((nth 1 ds) : D)).bind fun t27 =>
    (dBuild tab ty1064 [0, 1] [t26, t27]).bind fun t28 =>
    (some ((.ptr h_1.length 0 0 : D), dNew h_1 ty1064 3 [[.int .i64 0, .int .i64 0, .nils]])).bind fun p11 =>
    ((dStore tab p11.2 ty1064 p11.1 t28).bind fun h' => some ((.und : D), h')).bind fun p904 =>
    (some (t0 : D)).bind fun t29 =>
    (R fn24 [t29, .int .i64 3] p904.2).bind fun p30 =>
    (dBin tab .add ty3 (.int .i64 1) p30.1).bind fun t31 =>
    (some (t31 : D)).bind fun t12 =>
    ((loopW (F1088_L1 t0 t7 t8 p11) [t12, (nth 4 ds), (nth 5 ds), (nth 7 ds), (nth 8 ds), (nth 9 ds), (nth 10 ds), (nth 11 ds), (nth 12 ds), (nth 13 ds)] p30.2).bind fun r_1 =>
      some ((unblk 2 r_1.1), [(nth 0 r_1.2.1), (nth 1 r_1.2.1), (nth 2 r_1.2.1), (nth 3 r_1.2.1), (nth 4 r_1.2.1), (nth 5 r_1.2.1), (nth 6 r_1.2.1), (nth 7 r_1.2.1), (nth 8 r_1.2.1), (nth 9 r_1.2.1)], r_1.2.2)).bind fun r_6 =>
    toEnd r_6.1 ((some ((nth 0 ds) : D)).bind fun t123 =>
    (dLoad tab r_6.2.2 ty1064 p11.1).bind fun t124 =>
    (pLitF tab ty1059 1 [0] [t124]).bind fun t125 =>
    (dAppend tab r_6.2.2 ty1059 ty1059 t123 t125).bind fun p126 =>
    (some (p126.1 : D)).bind fun t9_1 =>
    (some (t0 : D)).bind fun t127 =>
    (R fn24 [t127, .int .i64 4] p126.2).bind fun p128 =>
    (dBin tab .eql ty3 p128.1 (.int .i64 3)).bind fun t129 =>
    (some (t129 : D)).bind fun t130 =>
    (gd t130 true (some (t9_1 : D))).bind fun t131 =>
    (gd t130 true (dLenT tab ty1059 t131)).bind fun t132 =>
    (gd t130 true (dBin tab .gtr ty3 t132 (.int .i64 0))).bind fun t133 =>
    (dPick t130 t133 (.bool false)).bind fun t134 =>
    (dIf t134
      ((some (t9_1 : D)).bind fun t135 =>
      (some (t9_1 : D)).bind fun t136 =>
      (some (t0 : D)).bind fun t137 =>
      (some (t9_1 : D)).bind fun t138 =>
      (dLenT tab ty1059 t138).bind fun t139 =>
      (R fn24 [t137, t139] p128.2).bind fun p140 =>
      (dIndexAddr tab ty1059 t136 p140.1).bind fun t141 =>
      (dLoad tab p140.2 ty1064 t141).bind fun t142 =>
      (pLitF tab ty1059 1 [0] [t142]).bind fun t143 =>
      (dAppend tab p140.2 ty1059 ty1059 t135 t143).bind fun p144 =>
      (some (p144.1 : D)).bind fun t9_2 =>
      some (.nrm, [t9_2], p144.2))
      (some (.nrm, [t9_1], p128.2))).bind fun r_7 =>
    toEnd (unblk 1 r_7.1) ((some ((nth 1 ds) : D)).bind fun t24 =>
    (dBin tab .add ty3 t24 (.int .i64 1)).bind fun t25 =>
    (some (t25 : D)).bind fun t10_1 =>
    some (.nrm, [(nth 0 r_7.2.1), t10_1, p11.1, (nth 0 r_6.2.1), (nth 1 r_6.2.1), (nth 2 r_6.2.1), t23, (nth 3 r_6.2.1), (nth 4 r_6.2.1), (nth 5 r_6.2.1), (nth 6 r_6.2.1), (nth 7 r_6.2.1), (nth 8 r_6.2.1), (nth 9 r_6.2.1), t134], r_7.2.2)) fun x_3 => some (x_3, [(nth 0 r_7.2.1), (nth 1 ds), p11.1, (nth 0 r_6.2.1), (nth 1 r_6.2.1), (nth 2 r_6.2.1), t23, (nth 3 r_6.2.1), (nth 4 r_6.2.1), (nth 5 r_6.2.1), (nth 6 r_6.2.1), (nth 7 r_6.2.1), (nth 8 r_6.2.1), (nth 9 r_6.2.1), t134], r_7.2.2)) fun x_2 => toEnd (unblk 1 x_2) ((some ((nth 1 ds) : D)).bind fun t24_1 =>
    (dBin tab .add ty3 t24_1 (.int .i64 1)).bind fun t25_1 =>
    (some (t25_1 : D)).bind fun t10_2 =>
    some (.nrm, [(nth 0 ds), t10_2, p11.1, (nth 0 r_6.2.1), (nth 1 r_6.2.1), (nth 2 r_6.2.1), t23, (nth 3 r_6.2.1), (nth 4 r_6.2.1), (nth 5 r_6.2.1), (nth 6 r_6.2.1), (nth 7 r_6.2.1), (nth 8 r_6.2.1), (nth 9 r_6.2.1), (nth 14 ds)], r_6.2.2)) fun x_4 => some (x_4, [(nth 0 ds), (nth 1 ds), p11.1, (nth 0 r_6.2.1), (nth 1 r_6.2.1), (nth 2 r_6.2.1), t23, (nth 3 r_6.2.1), (nth 4 r_6.2.1), (nth 5 r_6.2.1), (nth 6 r_6.2.1), (nth 7 r_6.2.1), (nth 8 r_6.2.1), (nth 9 r_6.2.1), (nth 14 ds)], r_6.2.2))
      (some ((.ext 0), [(nth 0 ds), (nth 1 ds), (nth 2 ds), (nth 3 ds), (nth 4 ds), (nth 5 ds), t23, (nth 7 ds), (nth 8 ds), (nth 9 ds), (nth 10 ds), (nth 11 ds), (nth 12 ds), (nth 13 ds), (nth 14 ds)], h_1))
noncomputable def F1088 (t0 : D) (t1 : D) (t2 : D) (h : Hp) : Option (D × Hp) :=
  (some (.nils : D)).bind fun t6 =>
  (some (t0 : D)).bind fun t15 =>
  (some (t1 : D)).bind fun t16 =>
  (some (t2 : D)).bind fun t17 =>
  (R fn71 [t15, t16, t17] h).bind fun p18 =>
  (some (p18.1 : D)).bind fun t7 =>
  (some (t7 : D)).bind fun t19 =>
  (dLenT tab ty111 t19).bind fun t20 =>
  (dMake tab p18.2 ty82 t20 t20).bind fun p21 =>
  (some (p21.1 : D)).bind fun t8 =>
  (some (.nils : D)).bind fun t9 =>
  (some (.int .i64 0 : D)).bind fun t10 =>
  ((loopW (F1088_L0 t0 t1 t7 t8) [t9, t10, .any, .any, .any, .any, .any, .any, .any, .any, .any, .any, .any, .any, .any] p21.2).bind fun r =>
    some ((unblk 0 r.1), [(nth 0 r.2.1), (nth 1 r.2.1), (nth 2 r.2.1), (nth 3 r.2.1), (nth 4 r.2.1), (nth 5 r.2.1), (nth 6 r.2.1), (nth 7 r.2.1), (nth 8 r.2.1), (nth 9 r.2.1), (nth 10 r.2.1), (nth 11 r.2.1), (nth 12 r.2.1), (nth 13 r.2.1), (nth 14 r.2.1)], r.2.2)).bind fun r_8 =>
  toEnd r_8.1 ((some ((nth 0 r_8.2.1) : D)).bind fun t145 =>
  (some (t145 : D)).bind fun t6_1 =>
  ((some (t6_1 : D)).bind fun d => (some ([] : List D)).bind fun ds => some (d :: ds)).bind fun ds => scope h r_8.2.2 (mkRes ds)) fun x_5 => exEnd x_5 (((some (t6 : D)).bind fun d => (some ([] : List D)).bind fun ds => some (d :: ds)).bind fun ds => scope h r_8.2.2 (mkRes ds))
theorem e1088 (t0 : D) (t1 : D) (t2 : D) (h : Hp) : R fn1088 [t0, t1, t2] h = F1088 t0 t1 t2 h :=
  (run_fn (X := X) (F := Fs) (fi := i13) (by kernel_rfl) _ _).trans (by kernel_rfl)
noncomputable def F1109 (t0 : D) (t1 : D) (h : Hp) : Option (D × Hp) :=
  (pBoxF t1).bind fun t3 =>
  (some (.nils : D)).bind fun t4 =>
  (some (.int .i64 0 : D)).bind fun t5 =>
  (dLoad tab h ty1064 t3).bind fun t9 =>
  (R fn1112 [t9] h).bind fun p10 =>
  (some (p10.1 : D)).bind fun t8 =>
  (dExtract 0 t8).bind fun t11 =>
  (dExtract 1 t8).bind fun t12 =>
  (some (t11 : D)).bind fun t6 =>
  (some (t12 : D)).bind fun t7 =>
  (some (t7 : D)).bind fun t13 =>
  (dBin tab .neq ty49 t13 (.int .i64 0)).bind fun t14 =>
  dIf t14
    ((some (t7 : D)).bind fun t15 =>
    (some (.nils : D)).bind fun t4_1 =>
    (some (t15 : D)).bind fun t5_1 =>
    ((some (t4_1 : D)).bind fun d => ((some (t5_1 : D)).bind fun d => (some ([] : List D)).bind fun ds => some (d :: ds)).bind fun ds => some (d :: ds)).bind fun ds => some (mkRes ds, p10.2))
    ((some (t0 : D)).bind fun t16 =>
  (some (t6 : D)).bind fun t17 =>
  (R fn1025 [t16, t17] p10.2).bind fun p18 =>
  (dExtract 0 p18.1).bind fun t19 =>
  (dExtract 1 p18.1).bind fun t20 =>
  (some (t19 : D)).bind fun t4_2 =>
  (some (t20 : D)).bind fun t5_2 =>
  ((some (t4_2 : D)).bind fun d => ((some (t5_2 : D)).bind fun d => (some ([] : List D)).bind fun ds => some (d :: ds)).bind fun ds => some (d :: ds)).bind fun ds => some (mkRes ds, p18.2))
theorem e1109 (t0 : D) (t1 : D) (h : Hp) : R fn1109 [t0, t1] h = F1109 t0 t1 h :=
  (run_fn (X := X) (F := Fs) (fi := i14) (by kernel_rfl) _ _).trans (by kernel_rfl)
/-- a loop: slots 2 4 5 13 14 19 23 30 -/
noncomputable def F1094_L0 (t1 : D) (t11 : D) (t12 : D) (ds : List D) (h_1 : Hp) : Option Out :=
    (dBin tab .lss ty3 (nth 3 ds) t12).bind fun t14 =>
    dIf t14
      ((dIndexAddr tab ty113 t11 (nth 3 ds)).bind fun t15 =>
    (dLoad tab h_1 ty74 t15).bind fun t16 =>
    (boxN 11 t16).bind fun t4 =>
    (dLoad tab h_1 ty74 t4).bind fun t17 =>
    (R fn1042 [t17] h_1).bind fun p18 =>
    (some (p18.1 : D)).bind fun t5 =>
    (some (t5 : D)).bind fun t20 =>
    (dBin tab .neq ty49 t20 (.int .i64 0)).bind fun t21 =>
    (some (t21 : D)).bind fun t19 =>
    dIf t19
      ((some (t5 : D)).bind fun t22 =>
      (some (t22 : D)).bind fun t2_2 =>
      some (.ret, [t2_2, t4, t5, (nth 3 ds), t14, t19, (nth 6 ds), (nth 7 ds)], p18.2))
      ((dFieldAddr tab ty74 1 t4).bind fun t24 =>
      (dFieldAddr tab ty31 0 t24).bind fun t25 =>
      (dLoad tab p18.2 ty3 t25).bind fun t26 =>
      (dFieldAddr tab ty1064 0 t1).bind fun t27 =>
      (dLoad tab p18.2 ty3 t27).bind fun t28 =>
      (dBin tab .neq ty3 t26 t28).bind fun t29 =>
      (some (t29 : D)).bind fun t23 =>
      dIf t23
        ((some (.int .i64 24 : D)).bind fun t2_3 =>
        some (.ret, [t2_3, t4, t5, (nth 3 ds), t14, t19, t23, (nth 7 ds)], p18.2))
        ((dFieldAddr tab ty74 0 t4).bind fun t31 =>
        (dLoad tab p18.2 ty9 t31).bind fun t32 =>
        (dBin tab .eql ty9 t32 (.str [42])).bind fun t33 =>
        (some (t33 : D)).bind fun t30 =>
        dIf t30
          ((some (.int .i64 6 : D)).bind fun t2_4 =>
          some (.ret, [t2_4, t4, t5, (nth 3 ds), t14, t19, t23, t30], p18.2))
          ((dBin tab .add ty3 (nth 3 ds) (.int .i64 1)).bind fun t34 =>
    (some (t34 : D)).bind fun t13_1 =>
    some (.nrm, [(nth 0 ds), t4, t5, t13_1, t14, t19, t23, t30], p18.2)))))
      (some ((.ext 0), [(nth 0 ds), (nth 1 ds), (nth 2 ds), (nth 3 ds), t14, (nth 5 ds), (nth 6 ds), (nth 7 ds)], h_1))
noncomputable def F1094 (t0 : D) (h : Hp) : Option (D × Hp) :=
  (pBoxF t0).bind fun t1 =>
  (some (.int .i64 0 : D)).bind fun t2 =>
  (dFieldAddr tab ty1064 2 t1).bind fun t6 =>
  (dLoad tab h ty113 t6).bind fun t7 =>
  (dLenT tab ty113 t7).bind fun t8 =>
  (dBin tab .gtr ty3 t8 (.int .i64 40)).bind fun t9 =>
  dIf t9
    ((some (.int .i64 4 : D)).bind fun t2_1 =>
    ((some (t2_1 : D)).bind fun d => (some ([] : List D)).bind fun ds => some (d :: ds)).bind fun ds => some (mkRes ds, h))
    ((dFieldAddr tab ty1064 2 t1).bind fun t10 =>
  (dLoad tab h ty113 t10).bind fun t11 =>
  (dLenT tab ty113 t11).bind fun t12 =>
  (some (.int .i64 0 : D)).bind fun t13 =>
  ((loopW (F1094_L0 t1 t11 t12) [t2, .any, .any, t13, .any, .any, .any, .any] h).bind fun r =>
    some ((unblk 0 r.1), [(nth 0 r.2.1), (nth 1 r.2.1), (nth 2 r.2.1), (nth 3 r.2.1), (nth 4 r.2.1), (nth 5 r.2.1), (nth 6 r.2.1), (nth 7 r.2.1)], r.2.2)).bind fun r_1 =>
  toEnd r_1.1 ((some (.int .i64 0 : D)).bind fun t2_5 =>
  ((some (t2_5 : D)).bind fun d => (some ([] : List D)).bind fun ds => some (d :: ds)).bind fun ds => some (mkRes ds, r_1.2.2)) fun x => exEnd x (((some ((nth 0 r_1.2.1) : D)).bind fun d => (some ([] : List D)).bind fun ds => some (d :: ds)).bind fun ds => some (mkRes ds, r_1.2.2)))
theorem e1094 (t0 : D) (h : Hp) : R fn1094 [t0] h = F1094 t0 h :=
  (run_fn (X := X) (F := Fs) (fi := i15) (by kernel_rfl) _ _).trans (by kernel_rfl)
noncomputable def F1162 (t0 : D) (t1 : D) (h : Hp) : Option (D × Hp) :=
  (some (.nils : D)).bind fun t4 =>
  (some (t0 : D)).bind fun t5 =>
  (some (t1 : D)).bind fun t6 =>
  (dConv tab ty3 ty1029 t6).bind fun t7 =>
  (dBin tab .shr ty1029 t7 (.int .u64 32)).bind fun t8 =>
  (dConv tab ty1029 ty65 t8).bind fun t9 =>
  (R fn1027 [t9] h).bind fun p10 =>
  (some (t1 : D)).bind fun t11 =>
  (dConv tab ty3 ty65 t11).bind fun t12 =>
  (R fn1027 [t12] p10.2).bind fun p13 =>
  (pLitF tab ty1031 3 [0, 1, 2] [t5, p10.1, p13.1]).bind fun t14 =>
  (R fn1028 [t14] p13.2).bind fun p15 =>
  (some (p15.1 : D)).bind fun t4_1 =>
  ((some (t4_1 : D)).bind fun d => (some ([] : List D)).bind fun ds => some (d :: ds)).bind fun ds => some (mkRes ds, p15.2)
theorem e1162 (t0 : D) (t1 : D) (h : Hp) : R fn1162 [t0, t1] h = F1162 t0 t1 h :=
  (run_fn (X := X) (F := Fs) (fi := i16) (by kernel_rfl) _ _).trans (by kernel_rfl)
noncomputable def F1027 (t0 : D) (h : Hp) : Option (D × Hp) :=
  (some (.nils : D)).bind fun t2 =>
  (some (t0 : D)).bind fun t3 =>
  (dBin tab .shr ty65 t3 (.int .u64 24)).bind fun t4 =>
  (dConv tab ty65 ty5 t4).bind fun t5 =>
  (some (t0 : D)).bind fun t6 =>
  (dBin tab .shr ty65 t6 (.int .u64 16)).bind fun t7 =>
  (dConv tab ty65 ty5 t7).bind fun t8 =>
  (some (t0 : D)).bind fun t9 =>
  (dBin tab .shr ty65 t9 (.int .u64 8)).bind fun t10 =>
  (dConv tab ty65 ty5 t10).bind fun t11 =>
  (some (t0 : D)).bind fun t12 =>
  (dConv tab ty65 ty5 t12).bind fun t13 =>
  (pLitF tab ty22 4 [0, 1, 2, 3] [t5, t8, t11, t13]).bind fun t14 =>
  (some (t14 : D)).bind fun t2_1 =>
  ((some (t2_1 : D)).bind fun d => (some ([] : List D)).bind fun ds => some (d :: ds)).bind fun ds => some (mkRes ds, h)
theorem e1027 (t0 : D) (h : Hp) : R fn1027 [t0] h = F1027 t0 h :=
  (run_fn (X := X) (F := Fs) (fi := i17) (by kernel_rfl) _ _).trans (by kernel_rfl)
noncomputable def F1128 (t0 : D) (h : Hp) : Option (D × Hp) :=
  (wBox ty74 11 h t0).bind fun p1 =>
  (some (.nils : D)).bind fun t2 =>
  (some (.int .i64 0 : D)).bind fun t3 =>
  (dLoad tab p1.2 ty74 p1.1).bind fun t6 =>
  (R fn1042 [t6] p1.2).bind fun p7 =>
  (some (p7.1 : D)).bind fun t4 =>
  (some (t4 : D)).bind fun t8 =>
  (dBin tab .neq ty49 t8 (.int .i64 0)).bind fun t9 =>
  dIf t9
    ((some (t4 : D)).bind fun t10 =>
    (some (.nils : D)).bind fun t2_1 =>
    (some (t10 : D)).bind fun t3_1 =>
    ((some (t2_1 : D)).bind fun d => ((some (t3_1 : D)).bind fun d => (some ([] : List D)).bind fun ds => some (d :: ds)).bind fun ds => some (d :: ds)).bind fun ds => scope h p7.2 (mkRes ds))
    ((dMake tab p7.2 ty22 (.int .i64 4) (.int .i64 4)).bind fun p11 =>
  (dBuild tab ty1101 [0] [p11.1]).bind fun t12 =>
  (wBox ty1101 1 p11.2 t12).bind fun p13 =>
  (some (p13.1 : D)).bind fun t5 =>
  (some (t5 : D)).bind fun t14 =>
  (some (.iface ty1099 t14 : D)).bind fun t15 =>
  (R fn1133 [t15, p1.1] p13.2).bind fun p16 =>
  (some (t5 : D)).bind fun t17 =>
  (dNilCheck tab t17).bind fun t18 =>
  (dFieldAddr tab ty1101 0 t18).bind fun t19 =>
  (dLoad tab p16.2 ty22 t19).bind fun t20 =>
  (some (t5 : D)).bind fun t21 =>
  (dNilCheck tab t21).bind fun t22 =>
  (dFieldAddr tab ty1101 0 t22).bind fun t23 =>
  (dLoad tab p16.2 ty22 t23).bind fun t24 =>
  (dLenT tab ty22 t24).bind fun t25 =>
  (dConv tab ty3 ty1029 t25).bind fun t26 =>
  (R fn1134 [.nils, t26, .int .i64 4] p16.2).bind fun p27 =>
  (dCopy tab p27.2 ty22 ty22 t20 p27.1).bind fun p28 =>
  chk (dLoad tab p27.2 ty22 t19 = some t20)
  ((some (t5 : D)).bind fun t29 =>
  (dNilCheck tab t29).bind fun t30 =>
  (dFieldAddr tab ty1101 0 t30).bind fun t31 =>
  (dLoad tab p28.2 ty22 t31).bind fun t32 =>
  (some (t5 : D)).bind fun t33 =>
  (dNilCheck tab t33).bind fun t34 =>
  (dFieldAddr tab ty1101 0 t34).bind fun t35 =>
  (dLoad tab p28.2 ty22 t35).bind fun t36 =>
  (R fn1135 [t36] p28.2).bind fun p37 =>
  (R fn1134 [t32, p37.1, .int .i64 4] p37.2).bind fun p38 =>
  chk (dLoad tab p37.2 ty22 t31 = some t32)
  ((some (p38.1 : D)).bind fun t2_2 =>
  (some (.int .i64 0 : D)).bind fun t3_2 =>
  ((some (t2_2 : D)).bind fun d => ((some (t3_2 : D)).bind fun d => (some ([] : List D)).bind fun ds => some (d :: ds)).bind fun ds => some (d :: ds)).bind fun ds => scope h p38.2 (mkRes ds))))
theorem e1128 (t0 : D) (h : Hp) : R fn1128 [t0] h = F1128 t0 h :=
  (run_fn (X := X) (F := Fs) (fi := i18) (by kernel_rfl) _ _).trans (by kernel_rfl)
noncomputable def F1163 (t0 : D) (h : Hp) : Option (D × Hp) :=
  (some (.int .i64 0 : D)).bind fun t2 =>
  (some (t0 : D)).bind fun t3 =>
  (R fn1110 [t3] h).bind fun p4 =>
  (dConv tab ty65 ty1029 p4.1).bind fun t5 =>
  (dBin tab .shl ty1029 t5 (.int .u64 32)).bind fun t6 =>
  (some (t0 : D)).bind fun t7 =>
  (dSliceAt tab ty22 true false false [t7, .int .i64 4]).bind fun t8 =>
  (R fn1110 [t8] p4.2).bind fun p9 =>
  (dConv tab ty65 ty1029 p9.1).bind fun t10 =>
  (dBin tab .or ty1029 t6 t10).bind fun t11 =>
  (dConv tab ty1029 ty3 t11).bind fun t12 =>
  (some (t12 : D)).bind fun t2_1 =>
  ((some (t2_1 : D)).bind fun d => (some ([] : List D)).bind fun ds => some (d :: ds)).bind fun ds => some (mkRes ds, p9.2)
theorem e1163 (t0 : D) (h : Hp) : R fn1163 [t0] h = F1163 t0 h :=
  (run_fn (X := X) (F := Fs) (fi := i19) (by kernel_rfl) _ _).trans (by kernel_rfl)
noncomputable def F1110 (t0 : D) (h : Hp) : Option (D × Hp) :=
  (some (.int .u32 0 : D)).bind fun t2 =>
  (some (t0 : D)).bind fun t3 =>
  (dIndexAddr tab ty22 t3 (.int .i64 0)).bind fun t4 =>
  (dLoad tab h ty5 t4).bind fun t5 =>
  (dConv tab ty5 ty65 t5).bind fun t6 =>
  (dBin tab .shl ty65 t6 (.int .u64 24)).bind fun t7 =>
  (some (t0 : D)).bind fun t8 =>
  (dIndexAddr tab ty22 t8 (.int .i64 1)).bind fun t9 =>
  (dLoad tab h ty5 t9).bind fun t10 =>
  (dConv tab ty5 ty65 t10).bind fun t11 =>
  (dBin tab .shl ty65 t11 (.int .u64 16)).bind fun t12 =>
  (dBin tab .or ty65 t7 t12).bind fun t13 =>
  (some (t0 : D)).bind fun t14 =>
  (dIndexAddr tab ty22 t14 (.int .i64 2)).bind fun t15 =>
  (dLoad tab h ty5 t15).bind fun t16 =>
  (dConv tab ty5 ty65 t16).bind fun t17 =>
  (dBin tab .shl ty65 t17 (.int .u64 8)).bind fun t18 =>
  (dBin tab .or ty65 t13 t18).bind fun t19 =>
  (some (t0 : D)).bind fun t20 =>
  (dIndexAddr tab ty22 t20 (.int .i64 3)).bind fun t21 =>
  (dLoad tab h ty5 t21).bind fun t22 =>
  (dConv tab ty5 ty65 t22).bind fun t23 =>
  (dBin tab .or ty65 t19 t23).bind fun t24 =>
  (some (t24 : D)).bind fun t2_1 =>
  ((some (t2_1 : D)).bind fun d => (some ([] : List D)).bind fun ds => some (d :: ds)).bind fun ds => some (mkRes ds, h)
theorem e1110 (t0 : D) (h : Hp) : R fn1110 [t0] h = F1110 t0 h :=
  (run_fn (X := X) (F := Fs) (fi := i20) (by kernel_rfl) _ _).trans (by kernel_rfl)
noncomputable def F1129 (t0 : D) (h : Hp) : Option (D × Hp) :=
  (some ((.ptr h.length 0 0 : D), dNew h ty74 11 [[.str [], .int .i64 0, .int .i64 0, .int .i64 0, .int .i64 0, .nils, .int .i64 0, .int .i64 0, .str [], .str [], .nils]])).bind fun p2 =>
  (some (.int .i64 0 : D)).bind fun t3 =>
  (some (.int .i64 0 : D)).bind fun t4 =>
  (some (t0 : D)).bind fun t8 =>
  (dLenT tab ty22 t8).bind fun t9 =>
  (dBin tab .lss ty3 t9 (.int .i64 4)).bind fun t10 =>
  dIf t10
    ((dBuild tab ty74 [] []).bind fun t11 =>
    ((dStore tab p2.2 ty74 p2.1 t11).bind fun h' => some ((.und : D), h')).bind fun p901 =>
    (some (.int .i64 0 : D)).bind fun t3_1 =>
    (some (.int .i64 14 : D)).bind fun t4_1 =>
    ((some (p2.1 : D)).bind fun p => (dLoad tab p901.2 ty74 p).bind fun d => ((some (t3_1 : D)).bind fun d => ((some (t4_1 : D)).bind fun d => (some ([] : List D)).bind fun ds => some (d :: ds)).bind fun ds => some (d :: ds)).bind fun ds => some (d :: ds)).bind fun ds => scope h p901.2 (mkRes ds))
    ((some (t0 : D)).bind fun t12 =>
  (dSliceAt tab ty22 false true false [t12, .int .i64 4]).bind fun t13 =>
  (R fn1136 [t13] p2.2).bind fun p14 =>
  (dConv tab ty1029 ty3 p14.1).bind fun t15 =>
  (some (t15 : D)).bind fun t5 =>
  (some (t5 : D)).bind fun t16 =>
  (dBin tab .lss ty3 t16 (.int .i64 4)).bind fun t17 =>
  (some (t17 : D)).bind fun t18 =>
  (gd t18 false (some (t5 : D))).bind fun t19 =>
  (gd t18 false (some (t0 : D))).bind fun t20 =>
  (gd t18 false (dLenT tab ty22 t20)).bind fun t21 =>
  (gd t18 false (dBin tab .sub ty3 t21 (.int .i64 4))).bind fun t22 =>
  (gd t18 false (dBin tab .gtr ty3 t19 t22)).bind fun t23 =>
  (dPick t18 (.bool true) t23).bind fun t24 =>
  dIf t24
    ((dBuild tab ty74 [] []).bind fun t25 =>
    ((dStore tab p14.2 ty74 p2.1 t25).bind fun h' => some ((.und : D), h')).bind fun p901_1 =>
    (some (.int .i64 0 : D)).bind fun t3_2 =>
    (some (.int .i64 14 : D)).bind fun t4_2 =>
    ((some (p2.1 : D)).bind fun p => (dLoad tab p901_1.2 ty74 p).bind fun d => ((some (t3_2 : D)).bind fun d => ((some (t4_2 : D)).bind fun d => (some ([] : List D)).bind fun ds => some (d :: ds)).bind fun ds => some (d :: ds)).bind fun ds => some (d :: ds)).bind fun ds => scope h p901_1.2 (mkRes ds))
    ((some (t0 : D)).bind fun t26 =>
  (some (t5 : D)).bind fun t27 =>
  (dSliceAt tab ty22 false true false [t26, t27]).bind fun t28 =>
  (R fn1135 [t28] p14.2).bind fun p29 =>
  (some (t0 : D)).bind fun t30 =>
  (some (t5 : D)).bind fun t31 =>
  (some (t5 : D)).bind fun t32 =>
  (dBin tab .add ty3 t32 (.int .i64 4)).bind fun t33 =>
  (dSliceAt tab ty22 true true false [t30, t31, t33]).bind fun t34 =>
  (R fn1136 [t34] p29.2).bind fun p35 =>
  (dBin tab .neq ty1029 p29.1 p35.1).bind fun t36 =>
  dIf t36
    ((dBuild tab ty74 [] []).bind fun t37 =>
    ((dStore tab p35.2 ty74 p2.1 t37).bind fun h' => some ((.und : D), h')).bind fun p901_2 =>
    (some (.int .i64 0 : D)).bind fun t3_3 =>
    (some (.int .i64 15 : D)).bind fun t4_3 =>
    ((some (p2.1 : D)).bind fun p => (dLoad tab p901_2.2 ty74 p).bind fun d => ((some (t3_3 : D)).bind fun d => ((some (t4_3 : D)).bind fun d => (some ([] : List D)).bind fun ds => some (d :: ds)).bind fun ds => some (d :: ds)).bind fun ds => some (d :: ds)).bind fun ds => scope h p901_2.2 (mkRes ds))
    ((some ((.ptr p35.2.length 0 0 : D), dNew p35.2 ty74 11 [[.str [], .int .i64 0, .int .i64 0, .int .i64 0, .int .i64 0, .nils, .int .i64 0, .int .i64 0, .str [], .str [], .nils]])).bind fun p6 =>
  (some (t0 : D)).bind fun t38 =>
  (some (t5 : D)).bind fun t39 =>
  (dSliceAt tab ty22 true true false [t38, .int .i64 4, t39]).bind fun t40 =>
  (dBuild tab ty1106 [0] [t40]).bind fun t41 =>
  (wBox ty1106 2 p6.2 t41).bind fun p42 =>
  (some (p42.1 : D)).bind fun t7 =>
  (some (t7 : D)).bind fun t43 =>
  (some (.iface ty1104 t43 : D)).bind fun t44 =>
  (R fn1133 [t44, p6.1] p42.2).bind fun p45 =>
  (some (t7 : D)).bind fun t46 =>
  (dNilCheck tab t46).bind fun t47 =>
  (dFieldAddr tab ty1106 1 t47).bind fun t48 =>
  (dLoad tab p45.2 ty4 t48).bind fun t49 =>
  (some (t49 : D)).bind fun t50 =>
  (gd t50 false (some (t7 : D))).bind fun t51 =>
  (gd t50 false (dNilCheck tab t51)).bind fun t52 =>
  (gd t50 false (dFieldAddr tab ty1106 0 t52)).bind fun t53 =>
  (gd t50 false (dLoad tab p45.2 ty22 t53)).bind fun t54 =>
  (gd t50 false (dLenT tab ty22 t54)).bind fun t55 =>
  (gd t50 false (dBin tab .gtr ty3 t55 (.int .i64 0))).bind fun t56 =>
  (dPick t50 (.bool true) t56).bind fun t57 =>
  (some (t57 : D)).bind fun t58 =>
  (gd t58 false (dLoad tab p45.2 ty74 p6.1)).bind fun t59 =>
  (gdW t58 false p45.2 (callB R fn1042 [t59] p45.2)).bind fun p60 =>
  (gd t58 false (dBin tab .neq ty49 p60.1 (.int .i64 0))).bind fun t61 =>
  (dPick t58 (.bool true) t61).bind fun t62 =>
  dIf t62
    ((dBuild tab ty74 [] []).bind fun t63 =>
    ((dStore tab p60.2 ty74 p2.1 t63).bind fun h' => some ((.und : D), h')).bind fun p901_3 =>
    (some (.int .i64 0 : D)).bind fun t3_4 =>
    (some (.int .i64 1 : D)).bind fun t4_4 =>
    ((some (p2.1 : D)).bind fun p => (dLoad tab p901_3.2 ty74 p).bind fun d => ((some (t3_4 : D)).bind fun d => ((some (t4_4 : D)).bind fun d => (some ([] : List D)).bind fun ds => some (d :: ds)).bind fun ds => some (d :: ds)).bind fun ds => some (d :: ds)).bind fun ds => scope h p901_3.2 (mkRes ds))
    ((dLoad tab p60.2 ty74 p6.1).bind fun t64 =>
  (some (t5 : D)).bind fun t65 =>
  (dBin tab .add ty3 (.int .i64 4) t65).bind fun t66 =>
  ((dStore tab p60.2 ty74 p2.1 t64).bind fun h' => some ((.und : D), h')).bind fun p903 =>
  (some (t66 : D)).bind fun t3_5 =>
  (some (.int .i64 0 : D)).bind fun t4_5 =>
  ((some (p2.1 : D)).bind fun p => (dLoad tab p903.2 ty74 p).bind fun d => ((some (t3_5 : D)).bind fun d => ((some (t4_5 : D)).bind fun d => (some ([] : List D)).bind fun ds => some (d :: ds)).bind fun ds => some (d :: ds)).bind fun ds => some (d :: ds)).bind fun ds => scope h p903.2 (mkRes ds)))))
theorem e1129 (t0 : D) (h : Hp) : R fn1129 [t0] h = F1129 t0 h :=
  (run_fn (X := X) (F := Fs) (fi := i21) (by kernel_rfl) _ _).trans (by kernel_rfl)
noncomputable def F1164 (t0 : D) (t1 : D) (h : Hp) : Option (D × Hp) :=
  (some (.bool false : D)).bind fun t4 =>
  (some (t0 : D)).bind fun t5 =>
  (dToStr h t5).bind fun t6 =>
  (some (t1 : D)).bind fun t7 =>
  (dToStr h t7).bind fun t8 =>
  (dBin tab .eql ty9 t6 t8).bind fun t9 =>
  (some (t9 : D)).bind fun t4_1 =>
  ((some (t4_1 : D)).bind fun d => (some ([] : List D)).bind fun ds => some (d :: ds)).bind fun ds => some (mkRes ds, h)
theorem e1164 (t0 : D) (t1 : D) (h : Hp) : R fn1164 [t0, t1] h = F1164 t0 t1 h :=
  (run_fn (X := X) (F := Fs) (fi := i22) (by kernel_rfl) _ _).trans (by kernel_rfl)
noncomputable def F82 (t0 : D) (t1 : D) (h : Hp) : Option (D × Hp) :=
  (pBoxF t0).bind fun t2 =>
  (pBoxF t1).bind fun t3 =>
  (some (.bool false : D)).bind fun t4 =>
  (dFieldAddr tab ty74 1 t2).bind fun t7 =>
  (dLoad tab h ty31 t7).bind fun t8 =>
  (dFieldAddr tab ty74 1 t3).bind fun t9 =>
  (dLoad tab h ty31 t9).bind fun t10 =>
  (some ((.ptr h.length 0 0 : D), dNew h ty31 10 [[.int .i64 0, .int .i64 0, .int .i64 0, .int .i64 0, .nils, .int .i64 0, .int .i64 0, .str [], .str [], .nils]])).bind fun p5 =>
  (some (.any : D)).bind fun t6 =>
  ((dStore tab p5.2 ty31 p5.1 t8).bind fun h' => some ((.und : D), h')).bind fun p906 =>
  chk (dLoad tab p5.2 ty31 t7 = some t8)
  (chk (dLoad tab p5.2 ty31 t9 = some t10)
  (chk (dLoad tab p906.2 ty31 t9 = some t10)
  (((dStore tab (dNew p906.2 ty31 10 [[.int .i64 0, .int .i64 0, .int .i64 0, .int .i64 0, .nils, .int .i64 0, .int .i64 0, .str [], .str [], .nils]]) ty31 (.ptr p906.2.length 0 0) t10).bind fun h' => some ((.und : D), h')).bind fun p907 =>
  (dFieldAddr tab ty74 0 t2).bind fun t11 =>
  (dLoad tab p907.2 ty9 t11).bind fun t12 =>
  (dFieldAddr tab ty74 0 t3).bind fun t13 =>
  (dLoad tab p907.2 ty9 t13).bind fun t14 =>
  (dBin tab .eql ty9 t12 t14).bind fun t15 =>
  (some (t15 : D)).bind fun t16 =>
  (gd t16 true (dFieldAddr tab ty31 0 p5.1)).bind fun t17 =>
  (gd t16 true (dLoad tab p907.2 ty3 t17)).bind fun t18 =>
  (gd t16 true (dFieldAddr tab ty31 0 (.ptr p906.2.length 0 0))).bind fun t19 =>
  (gd t16 true (dLoad tab p907.2 ty3 t19)).bind fun t20 =>
  (gd t16 true (dBin tab .eql ty3 t18 t20)).bind fun t21 =>
  (dPick t16 t21 (.bool false)).bind fun t22 =>
  (some (t22 : D)).bind fun t23 =>
  (gd t23 true (dFieldAddr tab ty31 1 p5.1)).bind fun t24 =>
  (gd t23 true (dLoad tab p907.2 ty3 t24)).bind fun t25 =>
  (gd t23 true (dFieldAddr tab ty31 1 (.ptr p906.2.length 0 0))).bind fun t26 =>
  (gd t23 true (dLoad tab p907.2 ty3 t26)).bind fun t27 =>
  (gd t23 true (dBin tab .eql ty3 t25 t27)).bind fun t28 =>
  (dPick t23 t28 (.bool false)).bind fun t29 =>
  (some (t29 : D)).bind fun t30 =>
  (gd t30 true (dFieldAddr tab ty31 2 p5.1)).bind fun t31 =>
  (gd t30 true (dLoad tab p907.2 ty3 t31)).bind fun t32 =>
  (gd t30 true (dFieldAddr tab ty31 2 (.ptr p906.2.length 0 0))).bind fun t33 =>
  (gd t30 true (dLoad tab p907.2 ty3 t33)).bind fun t34 =>
  (gd t30 true (dBin tab .eql ty3 t32 t34)).bind fun t35 =>
  (dPick t30 t35 (.bool false)).bind fun t36 =>
  (some (t36 : D)).bind fun t37 =>
  (gd t37 true (dFieldAddr tab ty31 3 p5.1)).bind fun t38 =>
  (gd t37 true (dLoad tab p907.2 ty3 t38)).bind fun t39 =>
  (gd t37 true (dFieldAddr tab ty31 3 (.ptr p906.2.length 0 0))).bind fun t40 =>
  (gd t37 true (dLoad tab p907.2 ty3 t40)).bind fun t41 =>
  (gd t37 true (dBin tab .eql ty3 t39 t41)).bind fun t42 =>
  (dPick t37 t42 (.bool false)).bind fun t43 =>
  (some (t43 : D)).bind fun t44 =>
  (gd t44 true (dFieldAddr tab ty31 5 p5.1)).bind fun t45 =>
  (gd t44 true (dLoad tab p907.2 ty3 t45)).bind fun t46 =>
  (gd t44 true (dFieldAddr tab ty31 5 (.ptr p906.2.length 0 0))).bind fun t47 =>
  (gd t44 true (dLoad tab p907.2 ty3 t47)).bind fun t48 =>
  (gd t44 true (dBin tab .eql ty3 t46 t48)).bind fun t49 =>
  (dPick t44 t49 (.bool false)).bind fun t50 =>
  (some (t50 : D)).bind fun t51 =>
  (gd t51 true (dFieldAddr tab ty31 6 p5.1)).bind fun t52 =>
  (gd t51 true (dLoad tab p907.2 ty3 t52)).bind fun t53 =>
  (gd t51 true (dFieldAddr tab ty31 6 (.ptr p906.2.length 0 0))).bind fun t54 =>
  (gd t51 true (dLoad tab p907.2 ty3 t54)).bind fun t55 =>
  (gd t51 true (dBin tab .eql ty3 t53 t55)).bind fun t56 =>
  (dPick t51 t56 (.bool false)).bind fun t57 =>
  (some (t57 : D)).bind fun t58 =>
  (gd t58 true (dFieldAddr tab ty31 7 p5.1)).bind fun t59 =>
  (gd t58 true (dLoad tab p907.2 ty9 t59)).bind fun t60 =>
  (gd t58 true (dFieldAddr tab ty31 7 (.ptr p906.2.length 0 0))).bind fun t61 =>
  (gd t58 true (dLoad tab p907.2 ty9 t61)).bind fun t62 =>
  (gd t58 true (dBin tab .eql ty9 t60 t62)).bind fun t63 =>
  (dPick t58 t63 (.bool false)).bind fun t64 =>
  (some (t64 : D)).bind fun t65 =>
  (gd t65 true (dFieldAddr tab ty31 8 p5.1)).bind fun t66 =>
  (gd t65 true (dLoad tab p907.2 ty9 t66)).bind fun t67 =>
  (gd t65 true (dFieldAddr tab ty31 8 (.ptr p906.2.length 0 0))).bind fun t68 =>
  (gd t65 true (dLoad tab p907.2 ty9 t68)).bind fun t69 =>
  (gd t65 true (dBin tab .eql ty9 t67 t69)).bind fun t70 =>
  (dPick t65 t70 (.bool false)).bind fun t71 =>
  (some (t71 : D)).bind fun t72 =>
  (gd t72 true (dFieldAddr tab ty31 4 p5.1)).bind fun t73 =>
  (gd t72 true (dLoad tab p907.2 ty28 t73)).bind fun t74 =>
  (gd t72 true (dFieldAddr tab ty31 4 (.ptr p906.2.length 0 0))).bind fun t75 =>
  (gd t72 true (dLoad tab p907.2 ty28 t75)).bind fun t76 =>
  (gdW t72 true p907.2 (R fn94 [t74, t76] p907.2)).bind fun p77 =>
  (dPick t72 p77.1 (.bool false)).bind fun t78 =>
  (some (t78 : D)).bind fun t79 =>
  (gd t79 true (dFieldAddr tab ty31 9 p5.1)).bind fun t80 =>
  (gd t79 true (dLoad tab p77.2 ty29 t80)).bind fun t81 =>
  (gd t79 true (dFieldAddr tab ty31 9 (.ptr p906.2.length 0 0))).bind fun t82 =>
  (gd t79 true (dLoad tab p77.2 ty29 t82)).bind fun t83 =>
  (gdW t79 true p77.2 (R fn95 [t81, t83] p77.2)).bind fun p84 =>
  (dPick t79 p84.1 (.bool false)).bind fun t85 =>
  (some (t85 : D)).bind fun t4_1 =>
  ((some (t4_1 : D)).bind fun d => (some ([] : List D)).bind fun ds => some (d :: ds)).bind fun ds => scope h p84.2 (mkRes ds))))
theorem e82 (t0 : D) (t1 : D) (h : Hp) : R fn82 [t0, t1] h = F82 t0 t1 h :=
  (run_fn (X := X) (F := Fs) (fi := i23) (by kernel_rfl) _ _).trans (by kernel_rfl)
noncomputable def F1029 (t0 : D) (t1 : D) (h : Hp) : Option (D × Hp) :=
  (some (.int .u32 0 : D)).bind fun t4 =>
  (some (t0 : D)).bind fun t5 =>
  (some (t1 : D)).bind fun t6 =>
  (pLitF tab ty1031 2 [0, 1] [t5, t6]).bind fun t7 =>
  (R fn1028 [t7] h).bind fun p8 =>
  (R fn1033 [p8.1] p8.2).bind fun p9 =>
  (some (p9.1 : D)).bind fun t4_1 =>
  ((some (t4_1 : D)).bind fun d => (some ([] : List D)).bind fun ds => some (d :: ds)).bind fun ds => scope h p9.2 (mkRes ds)
theorem e1029 (t0 : D) (t1 : D) (h : Hp) : R fn1029 [t0, t1] h = F1029 t0 t1 h :=
  (run_fn (X := X) (F := Fs) (fi := i24) (by kernel_rfl) _ _).trans (by kernel_rfl)
/-- a loop: slots 3 5 11 12 20 -/
noncomputable def F1028_L0 (t9 : D) (t10 : D) (ds : List D) (h_1 : Hp) : Option Out :=
    (dBin tab .lss ty3 (nth 2 ds) t10).bind fun t12 =>
    dIf t12
      ((dIndexAddr tab ty1031 t9 (nth 2 ds)).bind fun t13 =>
    (dLoad tab h_1 ty22 t13).bind fun t14 =>
    (some (t14 : D)).bind fun t5 =>
    (some ((nth 0 ds) : D)).bind fun t15 =>
    (some (t5 : D)).bind fun t16 =>
    (dLenT tab ty22 t16).bind fun t17 =>
    (dBin tab .add ty3 t15 t17).bind fun t18 =>
    (some (t18 : D)).bind fun t3_1 =>
    (some (t3_1 : D)).bind fun t19 =>
    (dBin tab .lss ty3 t19 (.int .i64 0)).bind fun t20 =>
    (dIf t20
      (((none : Option D)).bind fun t21 =>
      ((none : Option D)).bind fun t901 =>
      some (.nrm, ([] : List D), h_1))
      (some (.nrm, ([] : List D), h_1))).bind fun r_1 =>
    toEnd (unblk 1 r_1.1) ((dBin tab .add ty3 (nth 2 ds) (.int .i64 1)).bind fun t22 =>
    (some (t22 : D)).bind fun t11_1 =>
    some (.nrm, [t3_1, t5, t11_1, t12, t20], r_1.2.2)) fun x => some (x, [t3_1, t5, (nth 2 ds), t12, t20], r_1.2.2))
      (some ((.ext 0), [(nth 0 ds), (nth 1 ds), (nth 2 ds), t12, (nth 4 ds)], h_1))
/-- a loop: slots 6 8 27 28 -/
noncomputable def F1028_L1 (t25 : D) (t26 : D) (ds_1 : List D) (h_2 : Hp) : Option Out :=
    (dBin tab .lss ty3 (nth 2 ds_1) t26).bind fun t28 =>
    dIf t28
      ((dIndexAddr tab ty1031 t25 (nth 2 ds_1)).bind fun t29 =>
    (dLoad tab h_2 ty22 t29).bind fun t30 =>
    (some (t30 : D)).bind fun t8 =>
    (some ((nth 0 ds_1) : D)).bind fun t31 =>
    (some (t8 : D)).bind fun t32 =>
    (dAppend tab h_2 ty22 ty22 t31 t32).bind fun p33 =>
    (some (p33.1 : D)).bind fun t6_1 =>
    (dBin tab .add ty3 (nth 2 ds_1) (.int .i64 1)).bind fun t34 =>
    (some (t34 : D)).bind fun t27_1 =>
    some (.nrm, [t6_1, t8, t27_1, t28], p33.2))
      (some ((.ext 2), [(nth 0 ds_1), (nth 1 ds_1), (nth 2 ds_1), t28], h_2))
noncomputable def F1028 (t0 : D) (h : Hp) : Option (D × Hp) :=
  (some (.nils : D)).bind fun t2 =>
  (some (.int .i64 0 : D)).bind fun t3 =>
  (some (t0 : D)).bind fun t9 =>
  (dLenT tab ty1031 t9).bind fun t10 =>
  (some (.int .i64 0 : D)).bind fun t11 =>
  ((loopW (F1028_L0 t9 t10) [t3, .any, t11, .any, .any] h).bind fun r =>
    some ((unblk 0 r.1), [(nth 0 r.2.1), (nth 1 r.2.1), (nth 2 r.2.1), (nth 3 r.2.1), (nth 4 r.2.1)], r.2.2)).bind fun r_2 =>
  toEnd r_2.1 ((some ((nth 0 r_2.2.1) : D)).bind fun t23 =>
  (R fn1032 [.nils, t23] r_2.2.2).bind fun p24 =>
  (some (p24.1 : D)).bind fun t6 =>
  (some (t0 : D)).bind fun t25 =>
  (dLenT tab ty1031 t25).bind fun t26 =>
  (some (.int .i64 0 : D)).bind fun t27 =>
  ((loopW (F1028_L1 t25 t26) [t6, .any, t27, .any] p24.2).bind fun r_3 =>
    some ((unblk 2 r_3.1), [(nth 0 r_3.2.1), (nth 1 r_3.2.1), (nth 2 r_3.2.1), (nth 3 r_3.2.1)], r_3.2.2)).bind fun r_4 =>
  toEnd r_4.1 ((some ((nth 0 r_4.2.1) : D)).bind fun t35 =>
  (some (t35 : D)).bind fun t2_1 =>
  ((some (t2_1 : D)).bind fun d => (some ([] : List D)).bind fun ds => some (d :: ds)).bind fun ds => some (mkRes ds, r_4.2.2)) fun x_2 => exEnd x_2 (((some (t2 : D)).bind fun d => (some ([] : List D)).bind fun ds => some (d :: ds)).bind fun ds => some (mkRes ds, r_4.2.2))) fun x_1 => exEnd x_1 (((some (t2 : D)).bind fun d => (some ([] : List D)).bind fun ds => some (d :: ds)).bind fun ds => some (mkRes ds, r_2.2.2))
theorem e1028 (t0 : D) (h : Hp) : R fn1028 [t0] h = F1028 t0 h :=
  (run_fn (X := X) (F := Fs) (fi := i25) (by kernel_rfl) _ _).trans (by kernel_rfl)
/-- a loop: slots 9 10 11 12 24 -/
noncomputable def F71_L1 (t0 : D) (t1 : D) (ds : List D) (ds_1 : List D) (h_2 : Hp) : Option Out :=
    (some ((nth 2 ds_1) : D)).bind fun t23 =>
    (dBin tab .gtr ty3 t23 (.int .i64 0)).bind fun t24 =>
    dIf t24
      ((some (t0 : D)).bind fun t27 =>
    (some (t1 : D)).bind fun t28 =>
    (some ((nth 1 ds) : D)).bind fun t29 =>
    (dBin tab .add ty3 (.int .i64 5) t29).bind fun t30 =>
    (some ((nth 1 ds_1) : D)).bind fun t31 =>
    (R fn84 [t27, t28, t30, t31] h_2).bind fun p32 =>
    (boxN 11 p32.1).bind fun t12 =>
    (some ((nth 0 ds_1) : D)).bind fun t33 =>
    (dLoad tab p32.2 ty74 t12).bind fun t34 =>
    (pLitF tab ty113 1 [0] [t34]).bind fun t35 =>
    (dAppend tab p32.2 ty113 ty113 t33 t35).bind fun p36 =>
    (some (p36.1 : D)).bind fun t9_1 =>
    (dFieldAddr tab ty74 1 t12).bind fun t37 =>
    (dFieldAddr tab ty31 3 t37).bind fun t38 =>
    (dLoad tab p36.2 ty3 t38).bind fun t39 =>
    (some (t39 : D)).bind fun t10_1 =>
    (some ((nth 2 ds_1) : D)).bind fun t25 =>
    (dBin tab .sub ty3 t25 (.int .i64 1)).bind fun t26 =>
    (some (t26 : D)).bind fun t11_1 =>
    some (.nrm, [t9_1, t10_1, t11_1, t12, t24], p36.2))
      (some ((.ext 2), [(nth 0 ds_1), (nth 1 ds_1), (nth 2 ds_1), (nth 3 ds_1), t24], h_2))
/-- a loop: slots 7 8 9 10 11 12 16 24 -/
noncomputable def F71_L0 (t0 : D) (t1 : D) (t2 : D) (ds : List D) (h_1 : Hp) : Option Out :=
    (some ((nth 1 ds) : D)).bind fun t13 =>
    (some (t0 : D)).bind fun t14 =>
    (R fn24 [t14, .int .i64 3] h_1).bind fun p15 =>
    (dBin tab .leq ty3 t13 p15.1).bind fun t16 =>
    dIf t16
      ((some (.nils : D)).bind fun t9 =>
    (some (.int .i64 0 : D)).bind fun t10 =>
    (some (t0 : D)).bind fun t19 =>
    (some (t2 : D)).bind fun t20 =>
    (dBin tab .add ty3 t20 (.int .i64 1)).bind fun t21 =>
    (R fn24 [t19, t21] p15.2).bind fun p22 =>
    (some (p22.1 : D)).bind fun t11 =>
    ((loopW (F71_L1 t0 t1 ds) [t9, t10, t11, (nth 5 ds), (nth 7 ds)] p22.2).bind fun r_1 =>
      some ((unblk 2 r_1.1), [(nth 0 r_1.2.1), (nth 1 r_1.2.1), (nth 2 r_1.2.1), (nth 3 r_1.2.1), (nth 4 r_1.2.1)], r_1.2.2)).bind fun r_2 =>
    toEnd r_2.1 ((some ((nth 0 ds) : D)).bind fun t40 =>
    (some ((nth 0 r_2.2.1) : D)).bind fun t41 =>
    (pLitF tab ty111 1 [0] [t41]).bind fun t42 =>
    (dAppend tab r_2.2.2 ty111 ty111 t40 t42).bind fun p43 =>
    (some (p43.1 : D)).bind fun t7_1 =>
    (some ((nth 1 ds) : D)).bind fun t17 =>
    (dBin tab .add ty3 t17 (.int .i64 1)).bind fun t18 =>
    (some (t18 : D)).bind fun t8_1 =>
    some (.nrm, [t7_1, t8_1, (nth 0 r_2.2.1), (nth 1 r_2.2.1), (nth 2 r_2.2.1), (nth 3 r_2.2.1), t16, (nth 4 r_2.2.1)], p43.2)) fun x => toEnd (unblk 1 x) ((some ((nth 1 ds) : D)).bind fun t17_1 =>
    (dBin tab .add ty3 t17_1 (.int .i64 1)).bind fun t18_1 =>
    (some (t18_1 : D)).bind fun t8_2 =>
    some (.nrm, [(nth 0 ds), t8_2, (nth 0 r_2.2.1), (nth 1 r_2.2.1), (nth 2 r_2.2.1), (nth 3 r_2.2.1), t16, (nth 4 r_2.2.1)], r_2.2.2)) fun x_1 => some (x_1, [(nth 0 ds), (nth 1 ds), (nth 0 r_2.2.1), (nth 1 r_2.2.1), (nth 2 r_2.2.1), (nth 3 r_2.2.1), t16, (nth 4 r_2.2.1)], r_2.2.2))
      (some ((.ext 0), [(nth 0 ds), (nth 1 ds), (nth 2 ds), (nth 3 ds), (nth 4 ds), (nth 5 ds), t16, (nth 7 ds)], p15.2))
noncomputable def F71 (t0 : D) (t1 : D) (t2 : D) (h : Hp) : Option (D × Hp) :=
  (some (.nils : D)).bind fun t6 =>
  (some (.nils : D)).bind fun t7 =>
  (some (.int .i64 0 : D)).bind fun t8 =>
  ((loopW (F71_L0 t0 t1 t2) [t7, t8, .any, .any, .any, .any, .any, .any] h).bind fun r =>
    some ((unblk 0 r.1), [(nth 0 r.2.1), (nth 1 r.2.1), (nth 2 r.2.1), (nth 3 r.2.1), (nth 4 r.2.1), (nth 5 r.2.1), (nth 6 r.2.1), (nth 7 r.2.1)], r.2.2)).bind fun r_3 =>
  toEnd r_3.1 ((some ((nth 0 r_3.2.1) : D)).bind fun t44 =>
  (some (t44 : D)).bind fun t6_1 =>
  ((some (t6_1 : D)).bind fun d => (some ([] : List D)).bind fun ds => some (d :: ds)).bind fun ds => scope h r_3.2.2 (mkRes ds)) fun x_2 => exEnd x_2 (((some (t6 : D)).bind fun d => (some ([] : List D)).bind fun ds => some (d :: ds)).bind fun ds => scope h r_3.2.2 (mkRes ds))
theorem e71 (t0 : D) (t1 : D) (t2 : D) (h : Hp) : R fn71 [t0, t1, t2] h = F71 t0 t1 t2 h :=
  (run_fn (X := X) (F := Fs) (fi := i26) (by kernel_rfl) _ _).trans (by kernel_rfl)
noncomputable def F24 (t0 : D) (t1 : D) (h : Hp) : Option (D × Hp) :=
  (some (.int .i64 0 : D)).bind fun t4 =>
  (some (t0 : D)).bind fun t6 =>
  (R fn57 [t6] h).bind fun p7 =>
  (dUn .not p7.1).bind fun t8 =>
  (some (t8 : D)).bind fun t9 =>
  (gd t9 false (some (t1 : D))).bind fun t10 =>
  (gd t9 false (dBin tab .lss ty3 t10 (.int .i64 1))).bind fun t11 =>
  (dPick t9 (.bool true) t11).bind fun t12 =>
  dIf t12
    ((some (.int .i64 0 : D)).bind fun t4_1 =>
    ((some (t4_1 : D)).bind fun d => (some ([] : List D)).bind fun ds => some (d :: ds)).bind fun ds => some (mkRes ds, p7.2))
    ((some (t0 : D)).bind fun t13 =>
  (dNilCheck tab t13).bind fun t14 =>
  (dFieldAddr tab ty101 0 t14).bind fun t15 =>
  (dLoad tab p7.2 ty22 t15).bind fun t16 =>
  (some (t0 : D)).bind fun t17 =>
  (dNilCheck tab t17).bind fun t18 =>
  (dFieldAddr tab ty101 1 t18).bind fun t19 =>
  (dLoad tab p7.2 ty3 t19).bind fun t20 =>
  (dIndexAddr tab ty22 t16 t20).bind fun t21 =>
  (dLoad tab p7.2 ty5 t21).bind fun t22 =>
  (dConv tab ty5 ty3 t22).bind fun t23 =>
  (some (t23 : D)).bind fun t5 =>
  (some (t0 : D)).bind fun t24 =>
  (dNilCheck tab t24).bind fun t25 =>
  (dFieldAddr tab ty101 1 t25).bind fun t26 =>
  (dLoad tab p7.2 ty3 t26).bind fun t27 =>
  (dBin tab .add ty3 t27 (.int .i64 1)).bind fun t28 =>
  (dNilCheck tab t24).bind fun t29 =>
  (dFieldAddr tab ty101 1 t29).bind fun t30 =>
  ((dStore tab p7.2 ty3 t30 t28).bind fun h' => some ((.und : D), h')).bind fun p907 =>
  (some (t5 : D)).bind fun t31 =>
  (some (t1 : D)).bind fun t32 =>
  (dBin tab .mul ty3 t31 t32).bind fun t33 =>
  (dBin tab .quo ty3 t33 (.int .i64 256)).bind fun t34 =>
  (some (t34 : D)).bind fun t4_2 =>
  ((some (t4_2 : D)).bind fun d => (some ([] : List D)).bind fun ds => some (d :: ds)).bind fun ds => some (mkRes ds, p907.2))
theorem e24 (t0 : D) (t1 : D) (h : Hp) : R fn24 [t0, t1] h = F24 t0 t1 h :=
  (run_fn (X := X) (F := Fs) (fi := i27) (by kernel_rfl) _ _).trans (by kernel_rfl)
/-- a loop: slots 7 27 32 -/
noncomputable def F1093_L0 (t3 : D) (p5 : D × Hp) (t6 : D) (ds : List D) (h_1 : Hp) : Option Out :=
    (some ((nth 0 ds) : D)).bind fun t24 =>
    (some (t6 : D)).bind fun t25 =>
    (dLenT tab ty28 t25).bind fun t26 =>
    (dBin tab .lss ty3 t24 t26).bind fun t27 =>
    dIf t27
      ((dFieldAddr tab ty74 0 t3).bind fun t30 =>
    (dLoad tab h_1 ty9 t30).bind fun t31 =>
    (dBin tab .neq ty9 t31 (.str [])).bind fun t32 =>
    (dIf t32
      ((some (t6 : D)).bind fun t33 =>
      (some ((nth 0 ds) : D)).bind fun t34 =>
      (dIndexAddr tab ty28 t33 t34).bind fun t35 =>
      (dFieldAddr tab ty78 2 t35).bind fun t36 =>
      ((dStore tab h_1 ty9 t36 (.str [])).bind fun h' => some ((.und : D), h')).bind fun p904 =>
      some (.nrm, ([] : List D), p904.2))
      (some (.nrm, ([] : List D), h_1))).bind fun r_1 =>
    toEnd r_1.1 ((dFieldAddr tab ty74 1 p5.1).bind fun t37 =>
    (dFieldAddr tab ty31 4 t37).bind fun t38 =>
    (dLoad tab r_1.2.2 ty28 t38).bind fun t39 =>
    (some (t6 : D)).bind fun t40 =>
    (some ((nth 0 ds) : D)).bind fun t41 =>
    (dIndexAddr tab ty28 t40 t41).bind fun t42 =>
    (dLoad tab r_1.2.2 ty78 t42).bind fun t43 =>
    (pLitF tab ty28 1 [0] [t43]).bind fun t44 =>
    (dAppend tab r_1.2.2 ty28 ty28 t39 t44).bind fun p45 =>
    (dFieldAddr tab ty74 1 p5.1).bind fun t46 =>
    (dFieldAddr tab ty31 4 t46).bind fun t47 =>
    ((dStore tab p45.2 ty28 t47 p45.1).bind fun h' => some ((.und : D), h')).bind fun p911 =>
    (some ((nth 0 ds) : D)).bind fun t28 =>
    (dBin tab .add ty3 t28 (.int .i64 1)).bind fun t29 =>
    (some (t29 : D)).bind fun t7_1 =>
    some (.nrm, [t7_1, t27, t32], p911.2)) fun x => toEnd (unblk 1 x) ((some ((nth 0 ds) : D)).bind fun t28_1 =>
    (dBin tab .add ty3 t28_1 (.int .i64 1)).bind fun t29_1 =>
    (some (t29_1 : D)).bind fun t7_2 =>
    some (.nrm, [t7_2, t27, t32], r_1.2.2)) fun x_1 => some (x_1, [(nth 0 ds), t27, t32], r_1.2.2))
      (some ((.ext 0), [(nth 0 ds), t27, (nth 2 ds)], h_1))
noncomputable def F1093 (t0 : D) (t1 : D) (h : Hp) : Option (D × Hp) :=
  (pBoxF t0).bind fun t2 =>
  (pBoxF t1).bind fun t3 =>
  (some ((.ptr h.length 0 0 : D), dNew h ty74 11 [[.str [], .int .i64 0, .int .i64 0, .int .i64 0, .int .i64 0, .nils, .int .i64 0, .int .i64 0, .str [], .str [], .nils]])).bind fun p4 =>
  (dLoad tab p4.2 ty74 t3).bind fun t8 =>
  (some ((.ptr p4.2.length 0 0 : D), dNew p4.2 ty74 11 [[.str [], .int .i64 0, .int .i64 0, .int .i64 0, .int .i64 0, .nils, .int .i64 0, .int .i64 0, .str [], .str [], .nils]])).bind fun p5 =>
  ((dStore tab p5.2 ty74 p5.1 t8).bind fun h' => some ((.und : D), h')).bind fun p902 =>
  (dFieldAddr tab ty74 1 t2).bind fun t9 =>
  (dFieldAddr tab ty31 2 t9).bind fun t10 =>
  (dLoad tab p902.2 ty3 t10).bind fun t11 =>
  (dFieldAddr tab ty74 1 p5.1).bind fun t12 =>
  (dFieldAddr tab ty31 2 t12).bind fun t13 =>
  ((dStore tab p902.2 ty3 t13 t11).bind fun h' => some ((.und : D), h')).bind fun p905 =>
  (dFieldAddr tab ty74 1 p5.1).bind fun t14 =>
  (dFieldAddr tab ty31 4 t14).bind fun t15 =>
  ((dStore tab p905.2 ty28 t15 (.nils)).bind fun h' => some ((.und : D), h')).bind fun p902_1 =>
  (dFieldAddr tab ty74 1 t2).bind fun t16 =>
  (dFieldAddr tab ty31 4 t16).bind fun t17 =>
  (dLoad tab p902_1.2 ty28 t17).bind fun t18 =>
  (dAppend tab p902_1.2 ty28 ty28 (.nils) t18).bind fun p19 =>
  (dFieldAddr tab ty74 1 t3).bind fun t20 =>
  (dFieldAddr tab ty31 4 t20).bind fun t21 =>
  (dLoad tab p19.2 ty28 t21).bind fun t22 =>
  (dAppend tab p19.2 ty28 ty28 p19.1 t22).bind fun p23 =>
  chk (dLoad tab p902_1.2 ty28 t21 = some t22)
  ((some (p23.1 : D)).bind fun t6 =>
  (some (.int .i64 0 : D)).bind fun t7 =>
  ((loopW (F1093_L0 t3 p5 t6) [t7, .any, .any] p23.2).bind fun r =>
    some ((unblk 0 r.1), [(nth 0 r.2.1), (nth 1 r.2.1), (nth 2 r.2.1)], r.2.2)).bind fun r_2 =>
  toEnd r_2.1 ((dLoad tab r_2.2.2 ty74 p5.1).bind fun t48 =>
  ((dStore tab r_2.2.2 ty74 p4.1 t48).bind fun h' => some ((.und : D), h')).bind fun p901 =>
  ((some (p4.1 : D)).bind fun p => (dLoad tab p901.2 ty74 p).bind fun d => (some ([] : List D)).bind fun ds => some (d :: ds)).bind fun ds => scope h p901.2 (mkRes ds)) fun x_2 => exEnd x_2 (((some (p4.1 : D)).bind fun p => (dLoad tab r_2.2.2 ty74 p).bind fun d => (some ([] : List D)).bind fun ds => some (d :: ds)).bind fun ds => scope h r_2.2.2 (mkRes ds)))
theorem e1093 (t0 : D) (t1 : D) (h : Hp) : R fn1093 [t0, t1] h = F1093 t0 t1 h :=
  (run_fn (X := X) (F := Fs) (fi := i28) (by kernel_rfl) _ _).trans (by kernel_rfl)
/-- a loop: slots 5 6 7 31 -/
noncomputable def F1112_L0 (t1 : D) (ds : List D) (h_1 : Hp) : Option Out :=
    (some ((nth 1 ds) : D)).bind fun t27 =>
    (dFieldAddr tab ty1064 2 t1).bind fun t28 =>
    (dLoad tab h_1 ty113 t28).bind fun t29 =>
    (dLenT tab ty113 t29).bind fun t30 =>
    (dBin tab .lss ty3 t27 t30).bind fun t31 =>
    dIf t31
      ((dFieldAddr tab ty1064 2 t1).bind fun t35 =>
    (dLoad tab h_1 ty113 t35).bind fun t36 =>
    (some ((nth 1 ds) : D)).bind fun t37 =>
    (dIndexAddr tab ty113 t36 t37).bind fun t38 =>
    (dLoad tab h_1 ty74 t38).bind fun t39 =>
    (R fn1114 [t39] h_1).bind fun p40 =>
    (some (p40.1 : D)).bind fun t34 =>
    (dExtract 0 t34).bind fun t41 =>
    (dExtract 1 t34).bind fun t42 =>
    (some (t41 : D)).bind fun t7 =>
    (some (t42 : D)).bind fun t8 =>
    (some ((nth 0 ds) : D)).bind fun t43 =>
    (some (t7 : D)).bind fun t44 =>
    (dAppend tab p40.2 ty22 ty22 t43 t44).bind fun p45 =>
    (some (p45.1 : D)).bind fun t5_1 =>
    (some ((nth 1 ds) : D)).bind fun t32 =>
    (dBin tab .add ty3 t32 (.int .i64 1)).bind fun t33 =>
    (some (t33 : D)).bind fun t6_1 =>
    some (.nrm, [t5_1, t6_1, t7, t31], p45.2))
      (some ((.ext 0), [(nth 0 ds), (nth 1 ds), (nth 2 ds), t31], h_1))
noncomputable def F1112 (t0 : D) (h : Hp) : Option (D × Hp) :=
  (pBoxF t0).bind fun t1 =>
  (some (.nils : D)).bind fun t2 =>
  (some (.int .i64 0 : D)).bind fun t3 =>
  (dLoad tab h ty1064 t1).bind fun t9 =>
  (R fn1113 [t9] h).bind fun p10 =>
  (some (p10.1 : D)).bind fun t4 =>
  (some (t4 : D)).bind fun t11 =>
  (dBin tab .neq ty49 t11 (.int .i64 0)).bind fun t12 =>
  dIf t12
    ((some (t4 : D)).bind fun t13 =>
    (some (.nils : D)).bind fun t2_1 =>
    (some (t13 : D)).bind fun t3_1 =>
    ((some (t2_1 : D)).bind fun d => ((some (t3_1 : D)).bind fun d => (some ([] : List D)).bind fun ds => some (d :: ds)).bind fun ds => some (d :: ds)).bind fun ds => scope h p10.2 (mkRes ds))
    ((dFieldAddr tab ty1064 0 t1).bind fun t14 =>
  (dLoad tab p10.2 ty3 t14).bind fun t15 =>
  (dConv tab ty3 ty1029 t15).bind fun t16 =>
  (R fn1030 [.nils, t16, .int .i64 8] p10.2).bind fun p17 =>
  (dFieldAddr tab ty1064 1 t1).bind fun t18 =>
  (dLoad tab p17.2 ty3 t18).bind fun t19 =>
  (dConv tab ty3 ty1029 t19).bind fun t20 =>
  (R fn1030 [p17.1, t20, .int .i64 8] p17.2).bind fun p21 =>
  (dFieldAddr tab ty1064 2 t1).bind fun t22 =>
  (dLoad tab p21.2 ty113 t22).bind fun t23 =>
  (dLenT tab ty113 t23).bind fun t24 =>
  (dConv tab ty3 ty1029 t24).bind fun t25 =>
  (R fn1030 [p21.1, t25, .int .i64 4] p21.2).bind fun p26 =>
  chk (dLoad tab p10.2 ty3 t18 = some t19)
  (chk (dLoad tab p10.2 ty113 t22 = some t23)
  (chk (dLoad tab p17.2 ty113 t22 = some t23)
  ((some (p26.1 : D)).bind fun t5 =>
  (some (.int .i64 0 : D)).bind fun t6 =>
  ((loopW (F1112_L0 t1) [t5, t6, .any, .any] p26.2).bind fun r =>
    some ((unblk 0 r.1), [(nth 0 r.2.1), (nth 1 r.2.1), (nth 2 r.2.1), (nth 3 r.2.1)], r.2.2)).bind fun r_1 =>
  toEnd r_1.1 ((some ((nth 0 r_1.2.1) : D)).bind fun t46 =>
  (some (t46 : D)).bind fun t2_2 =>
  (some (.int .i64 0 : D)).bind fun t3_2 =>
  ((some (t2_2 : D)).bind fun d => ((some (t3_2 : D)).bind fun d => (some ([] : List D)).bind fun ds => some (d :: ds)).bind fun ds => some (d :: ds)).bind fun ds => scope h r_1.2.2 (mkRes ds)) fun x => exEnd x (((some (t2 : D)).bind fun d => ((some (t3 : D)).bind fun d => (some ([] : List D)).bind fun ds => some (d :: ds)).bind fun ds => some (d :: ds)).bind fun ds => scope h r_1.2.2 (mkRes ds))))))
theorem e1112 (t0 : D) (h : Hp) : R fn1112 [t0] h = F1112 t0 h :=
  (run_fn (X := X) (F := Fs) (fi := i29) (by kernel_rfl) _ _).trans (by kernel_rfl)
noncomputable def F1025 (t0 : D) (t1 : D) (h : Hp) : Option (D × Hp) :=
  (some (.nils : D)).bind fun t4 =>
  (some (.int .i64 0 : D)).bind fun t5 =>
  (some (t1 : D)).bind fun t9 =>
  (dLenT tab ty22 t9).bind fun t10 =>
  (dBin tab .eql ty3 t10 (.int .i64 0)).bind fun t11 =>
  (some (t11 : D)).bind fun t12 =>
  (gd t12 false (some (t1 : D))).bind fun t13 =>
  (gd t12 false (dLenT tab ty22 t13)).bind fun t14 =>
  (gd t12 false (dBin tab .gtr ty3 t14 (.int .i64 8388608))).bind fun t15 =>
  (dPick t12 (.bool true) t15).bind fun t16 =>
  dIf t16
    ((some (.nils : D)).bind fun t4_1 =>
    (some (.int .i64 3 : D)).bind fun t5_1 =>
    ((some (t4_1 : D)).bind fun d => ((some (t5_1 : D)).bind fun d => (some ([] : List D)).bind fun ds => some (d :: ds)).bind fun ds => some (d :: ds)).bind fun ds => scope h h (mkRes ds))
    ((some (t0 : D)).bind fun t17 =>
  (dLenT tab ty22 t17).bind fun t18 =>
  (dBin tab .add ty3 t18 (.int .i64 8)).bind fun t19 =>
  (some (t1 : D)).bind fun t20 =>
  (dLenT tab ty22 t20).bind fun t21 =>
  (dBin tab .add ty3 t19 t21).bind fun t22 =>
  (dBin tab .gtr ty3 t22 (.int .i64 67108864)).bind fun t23 =>
  dIf t23
    ((some (.nils : D)).bind fun t4_2 =>
    (some (.int .i64 16 : D)).bind fun t5_2 =>
    ((some (t4_2 : D)).bind fun d => ((some (t5_2 : D)).bind fun d => (some ([] : List D)).bind fun ds => some (d :: ds)).bind fun ds => some (d :: ds)).bind fun ds => scope h h (mkRes ds))
    ((some (t1 : D)).bind fun t24 =>
  (dLenT tab ty22 t24).bind fun t25 =>
  (dConv tab ty3 ty1029 t25).bind fun t26 =>
  (R fn1030 [.nils, t26, .int .i64 4] h).bind fun p27 =>
  (some (p27.1 : D)).bind fun t6 =>
  (some (t6 : D)).bind fun t28 =>
  (dAppend tab p27.2 ty22 ty22 (.nils) t28).bind fun p29 =>
  (some (t1 : D)).bind fun t30 =>
  (dAppend tab p29.2 ty22 ty22 p29.1 t30).bind fun p31 =>
  (R fn1031 [p31.1] p31.2).bind fun p32 =>
  (some (p32.1 : D)).bind fun t7 =>
  (some (t0 : D)).bind fun t33 =>
  (dAppend tab p32.2 ty22 ty22 (.nils) t33).bind fun p34 =>
  (some (t6 : D)).bind fun t35 =>
  (some (t7 : D)).bind fun t36 =>
  (dConv tab ty65 ty1029 t36).bind fun t37 =>
  (R fn1030 [t35, t37, .int .i64 4] p34.2).bind fun p38 =>
  (dAppend tab p38.2 ty22 ty22 p34.1 p38.1).bind fun p39 =>
  (some (p39.1 : D)).bind fun t8 =>
  (some (t8 : D)).bind fun t40 =>
  (some (t1 : D)).bind fun t41 =>
  (dAppend tab p39.2 ty22 ty22 t40 t41).bind fun p42 =>
  (some (p42.1 : D)).bind fun t4_3 =>
  (some (.int .i64 0 : D)).bind fun t5_3 =>
  ((some (t4_3 : D)).bind fun d => ((some (t5_3 : D)).bind fun d => (some ([] : List D)).bind fun ds => some (d :: ds)).bind fun ds => some (d :: ds)).bind fun ds => scope h p42.2 (mkRes ds)))
theorem e1025 (t0 : D) (t1 : D) (h : Hp) : R fn1025 [t0, t1] h = F1025 t0 t1 h :=
  (run_fn (X := X) (F := Fs) (fi := i30) (by kernel_rfl) _ _).trans (by kernel_rfl)
noncomputable def F1042 (t0 : D) (h : Hp) : Option (D × Hp) :=
  (pBoxF t0).bind fun t1 =>
  (some (.int .i64 0 : D)).bind fun t2 =>
  (dFieldAddr tab ty74 1 t1).bind fun t5 =>
  (dLoad tab h ty31 t5).bind fun t6 =>
  (boxN 10 t6).bind fun t3 =>
  (dFieldAddr tab ty74 0 t1).bind fun t8 =>
  (dLoad tab h ty9 t8).bind fun t9 =>
  (dBin tab .eql ty9 t9 (.str [])).bind fun t10 =>
  (some (t10 : D)).bind fun t7 =>
  dIf t7
    ((dLoad tab h ty31 t3).bind fun t11 =>
    (R fn1043 [t11] h).bind fun p12 =>
    (some (p12.1 : D)).bind fun t2_1 =>
    ((some (t2_1 : D)).bind fun d => (some ([] : List D)).bind fun ds => some (d :: ds)).bind fun ds => some (mkRes ds, p12.2))
    ((dFieldAddr tab ty74 0 t1).bind fun t14 =>
    (dLoad tab h ty9 t14).bind fun t15 =>
    (dLenT tab ty9 t15).bind fun t16 =>
    (dBin tab .gtr ty3 t16 (.int .i64 32)).bind fun t17 =>
    (some (t17 : D)).bind fun t13 =>
    dIf t13
      ((some (.int .i64 3 : D)).bind fun t2_2 =>
      ((some (t2_2 : D)).bind fun d => (some ([] : List D)).bind fun ds => some (d :: ds)).bind fun ds => some (mkRes ds, h))
      ((dLoad tab h ty31 t3).bind fun t19 =>
      (R fn1047 [t19] h).bind fun p20 =>
      (dUn .not p20.1).bind fun t21 =>
      (some (t21 : D)).bind fun t18 =>
      dIf t18
        ((some (.int .i64 2 : D)).bind fun t2_3 =>
        ((some (t2_3 : D)).bind fun d => (some ([] : List D)).bind fun ds => some (d :: ds)).bind fun ds => some (mkRes ds, p20.2))
        ((dLoad tab p20.2 ty31 t3).bind fun t22 =>
  (R fn1048 [t22, .int .i64 60000] p20.2).bind fun p23 =>
  (some (p23.1 : D)).bind fun t4 =>
  (some (t4 : D)).bind fun t24 =>
  (dBin tab .eql ty49 t24 (.int .i64 9)).bind fun t25 =>
  (some (t25 : D)).bind fun t26 =>
  (gd t26 false (some (t4 : D))).bind fun t27 =>
  (gd t26 false (dBin tab .eql ty49 t27 (.int .i64 4))).bind fun t28 =>
  (dPick t26 (.bool true) t28).bind fun t29 =>
  (some (t29 : D)).bind fun t30 =>
  (gd t30 false (some (t4 : D))).bind fun t31 =>
  (gd t30 false (dBin tab .eql ty49 t31 (.int .i64 19))).bind fun t32 =>
  (dPick t30 (.bool true) t32).bind fun t33 =>
  dIf t33
    ((some (t4 : D)).bind fun t34 =>
    (some (t34 : D)).bind fun t2_4 =>
    ((some (t2_4 : D)).bind fun d => (some ([] : List D)).bind fun ds => some (d :: ds)).bind fun ds => some (mkRes ds, p23.2))
    ((dFieldAddr tab ty31 5 t3).bind fun t35 =>
  (dLoad tab p23.2 ty3 t35).bind fun t36 =>
  (dBin tab .neq ty3 t36 (.int .i64 0)).bind fun t37 =>
  (some (t37 : D)).bind fun t38 =>
  (gd t38 false (dFieldAddr tab ty31 6 t3)).bind fun t39 =>
  (gd t38 false (dLoad tab p23.2 ty3 t39)).bind fun t40 =>
  (gd t38 false (dBin tab .neq ty3 t40 (.int .i64 0))).bind fun t41 =>
  (dPick t38 (.bool true) t41).bind fun t42 =>
  (some (t42 : D)).bind fun t43 =>
  (gd t43 false (dFieldAddr tab ty31 7 t3)).bind fun t44 =>
  (gd t43 false (dLoad tab p23.2 ty9 t44)).bind fun t45 =>
  (gd t43 false (dBin tab .neq ty9 t45 (.str []))).bind fun t46 =>
  (dPick t43 (.bool true) t46).bind fun t47 =>
  (some (t47 : D)).bind fun t48 =>
  (gd t48 false (dFieldAddr tab ty31 8 t3)).bind fun t49 =>
  (gd t48 false (dLoad tab p23.2 ty9 t49)).bind fun t50 =>
  (gd t48 false (dBin tab .neq ty9 t50 (.str []))).bind fun t51 =>
  (dPick t48 (.bool true) t51).bind fun t52 =>
  (some (t52 : D)).bind fun t53 =>
  (gd t53 false (dFieldAddr tab ty31 9 t3)).bind fun t54 =>
  (gd t53 false (dLoad tab p23.2 ty29 t54)).bind fun t55 =>
  (gd t53 false (dLenT tab ty29 t55)).bind fun t56 =>
  (gd t53 false (dBin tab .neq ty3 t56 (.int .i64 0))).bind fun t57 =>
  (dPick t53 (.bool true) t57).bind fun t58 =>
  (some (t58 : D)).bind fun t59 =>
  (gd t59 false (dFieldAddr tab ty31 4 t3)).bind fun t60 =>
  (gd t59 false (dLoad tab p23.2 ty28 t60)).bind fun t61 =>
  (gdW t59 false p23.2 (R fn1049 [t61, .fn (.func fn1050) [] []] p23.2)).bind fun p62 =>
  (dPick t59 (.bool true) p62.1).bind fun t63 =>
  dIf t63
    ((some (.int .i64 19 : D)).bind fun t2_5 =>
    ((some (t2_5 : D)).bind fun d => (some ([] : List D)).bind fun ds => some (d :: ds)).bind fun ds => some (mkRes ds, p62.2))
    ((some (.int .i64 0 : D)).bind fun t2_6 =>
  ((some (t2_6 : D)).bind fun d => (some ([] : List D)).bind fun ds => some (d :: ds)).bind fun ds => some (mkRes ds, p62.2))))))
theorem e1042 (t0 : D) (h : Hp) : R fn1042 [t0] h = F1042 t0 h :=
  (run_fn (X := X) (F := Fs) (fi := i31) (by kernel_rfl) _ _).trans (by kernel_rfl)
/-- a loop: slots 6 35 36 -/
noncomputable def F1133_L0 (t0 : D) (t33 : D) (t34 : D) (ds : List D) (h_1 : Hp) : Option Out :=
    (dBin tab .lss ty3 (nth 1 ds) t34).bind fun t36 =>
    dIf t36
      ((dIndexAddr tab ty1133 t33 (nth 1 ds)).bind fun t37 =>
    (dLoad tab h_1 ty1132 t37).bind fun t38 =>
    (some (t38 : D)).bind fun t6 =>
    (some (t0 : D)).bind fun t39 =>
    (some (t6 : D)).bind fun t40 =>
    (callI tab R "logtide/event.number" [t39, t40] h_1).bind fun p41 =>
    (dBin tab .add ty3 (nth 1 ds) (.int .i64 1)).bind fun t42 =>
    (some (t42 : D)).bind fun t35_1 =>
    some (.nrm, [t6, t35_1, t36], p41.2))
      (some ((.ext 0), [(nth 0 ds), (nth 1 ds), t36], h_1))
/-- a loop: slots 7 8 53 54 62 -/
noncomputable def F1133_L1 (t0 : D) (t4 : D) (p52 : D × Hp) (ds_1 : List D) (h_2 : Hp) : Option Out :=
    (dBin tab .lss ty3 (nth 2 ds_1) p52.1).bind fun t54 =>
    dIf t54
      ((some ((nth 2 ds_1) : D)).bind fun t55 =>
    (some (t55 : D)).bind fun t7 =>
    (some (t7 : D)).bind fun t56 =>
    (some (t4 : D)).bind fun t57 =>
    (dNilCheck tab t57).bind fun t58 =>
    (dFieldAddr tab ty31 4 t58).bind fun t59 =>
    (dLoad tab h_2 ty28 t59).bind fun t60 =>
    (dLenT tab ty28 t60).bind fun t61 =>
    (dBin tab .eql ty3 t56 t61).bind fun t62 =>
    (dIf t62
      ((some (t4 : D)).bind fun t63 =>
      (some (t4 : D)).bind fun t64 =>
      (dNilCheck tab t64).bind fun t65 =>
      (dFieldAddr tab ty31 4 t65).bind fun t66 =>
      (dLoad tab h_2 ty28 t66).bind fun t67 =>
      (dBuild tab ty78 [] []).bind fun t68 =>
      (pLitF tab ty28 1 [0] [t68]).bind fun t69 =>
      (dAppend tab h_2 ty28 ty28 t67 t69).bind fun p70 =>
      (dNilCheck tab t63).bind fun t71 =>
      (dFieldAddr tab ty31 4 t71).bind fun t72 =>
      ((dStore tab p70.2 ty28 t72 p70.1).bind fun h' => some ((.und : D), h')).bind fun p910 =>
      some (.nrm, ([] : List D), p910.2))
      (some (.nrm, ([] : List D), h_2))).bind fun r_3 =>
    toEnd r_3.1 ((some (t4 : D)).bind fun t73 =>
    (dNilCheck tab t73).bind fun t74 =>
    (dFieldAddr tab ty31 4 t74).bind fun t75 =>
    (dLoad tab r_3.2.2 ty28 t75).bind fun t76 =>
    (some (t7 : D)).bind fun t77 =>
    (dIndexAddr tab ty28 t76 t77).bind fun t78 =>
    (some (t78 : D)).bind fun t8 =>
    (some (t0 : D)).bind fun t79 =>
    (some (t8 : D)).bind fun t80 =>
    (dNilCheck tab t80).bind fun t81 =>
    (dFieldAddr tab ty78 0 t81).bind fun t82 =>
    (some (.fn (.method "logtide/event.number") [t79] [] : D)).bind fun t83 =>
    (dNilCheck tab t83).bind fun t84 =>
    (some (t79 : D)).bind fun t85 =>
    (callI tab R "logtide/event.number" [t85, t82] r_3.2.2).bind fun p86 =>
    (some (t0 : D)).bind fun t87 =>
    (some (t8 : D)).bind fun t88 =>
    (dNilCheck tab t88).bind fun t89 =>
    (dFieldAddr tab ty78 1 t89).bind fun t90 =>
    (some (.fn (.method "logtide/event.number") [t87] [] : D)).bind fun t91 =>
    (dNilCheck tab t91).bind fun t92 =>
    (some (t87 : D)).bind fun t93 =>
    (callI tab R "logtide/event.number" [t93, t90] p86.2).bind fun p94 =>
    (some (t0 : D)).bind fun t95 =>
    (some (t8 : D)).bind fun t96 =>
    (dNilCheck tab t96).bind fun t97 =>
    (dFieldAddr tab ty78 2 t97).bind fun t98 =>
    (some (.fn (.method "logtide/event.text") [t95] [] : D)).bind fun t99 =>
    (dNilCheck tab t99).bind fun t100 =>
    (some (t95 : D)).bind fun t101 =>
    (callI tab R "logtide/event.text" [t101, t98] p94.2).bind fun p102 =>
    (dBin tab .add ty3 (nth 2 ds_1) (.int .i64 1)).bind fun t103 =>
    (some (t103 : D)).bind fun t53_1 =>
    some (.nrm, [t7, t8, t53_1, t54, t62], p102.2)) fun x_1 => toEnd (unblk 3 x_1) ((dBin tab .add ty3 (nth 2 ds_1) (.int .i64 1)).bind fun t103_1 =>
    (some (t103_1 : D)).bind fun t53_2 =>
    some (.nrm, [t7, (nth 1 ds_1), t53_2, t54, t62], r_3.2.2)) fun x_2 => some (x_2, [t7, (nth 1 ds_1), (nth 2 ds_1), t54, t62], r_3.2.2))
      (some ((.ext 2), [(nth 0 ds_1), (nth 1 ds_1), (nth 2 ds_1), t54, (nth 4 ds_1)], h_2))
/-- a loop: slots 9 146 147 155 -/
noncomputable def F1133_L2 (t0 : D) (t4 : D) (p145 : D × Hp) (ds_2 : List D) (h_3 : Hp) : Option Out :=
    (dBin tab .lss ty3 (nth 1 ds_2) p145.1).bind fun t147 =>
    dIf t147
      ((some ((nth 1 ds_2) : D)).bind fun t148 =>
    (some (t148 : D)).bind fun t9 =>
    (some (t9 : D)).bind fun t149 =>
    (some (t4 : D)).bind fun t150 =>
    (dNilCheck tab t150).bind fun t151 =>
    (dFieldAddr tab ty31 9 t151).bind fun t152 =>
    (dLoad tab h_3 ty29 t152).bind fun t153 =>
    (dLenT tab ty29 t153).bind fun t154 =>
    (dBin tab .eql ty3 t149 t154).bind fun t155 =>
    (dIf t155
      ((some (t4 : D)).bind fun t156 =>
      (some (t4 : D)).bind fun t157 =>
      (dNilCheck tab t157).bind fun t158 =>
      (dFieldAddr tab ty31 9 t158).bind fun t159 =>
      (dLoad tab h_3 ty29 t159).bind fun t160 =>
      (dBuild tab ty109 [] []).bind fun t161 =>
      (pLitF tab ty29 1 [0] [t161]).bind fun t162 =>
      (dAppend tab h_3 ty29 ty29 t160 t162).bind fun p163 =>
      (dNilCheck tab t156).bind fun t164 =>
      (dFieldAddr tab ty31 9 t164).bind fun t165 =>
      ((dStore tab p163.2 ty29 t165 p163.1).bind fun h' => some ((.und : D), h')).bind fun p910_1 =>
      some (.nrm, ([] : List D), p910_1.2))
      (some (.nrm, ([] : List D), h_3))).bind fun r_6 =>
    toEnd r_6.1 ((some (t0 : D)).bind fun t166 =>
    (some (t4 : D)).bind fun t167 =>
    (dNilCheck tab t167).bind fun t168 =>
    (dFieldAddr tab ty31 9 t168).bind fun t169 =>
    (dLoad tab r_6.2.2 ty29 t169).bind fun t170 =>
    (some (t9 : D)).bind fun t171 =>
    (dIndexAddr tab ty29 t170 t171).bind fun t172 =>
    (dFieldAddr tab ty109 0 t172).bind fun t173 =>
    (some (.fn (.method "logtide/event.text") [t166] [] : D)).bind fun t174 =>
    (dNilCheck tab t174).bind fun t175 =>
    (some (t166 : D)).bind fun t176 =>
    (callI tab R "logtide/event.text" [t176, t173] r_6.2.2).bind fun p177 =>
    (some (t0 : D)).bind fun t178 =>
    (some (t4 : D)).bind fun t179 =>
    (dNilCheck tab t179).bind fun t180 =>
    (dFieldAddr tab ty31 9 t180).bind fun t181 =>
    (dLoad tab p177.2 ty29 t181).bind fun t182 =>
    (some (t9 : D)).bind fun t183 =>
    (dIndexAddr tab ty29 t182 t183).bind fun t184 =>
    (dFieldAddr tab ty109 1 t184).bind fun t185 =>
    (some (.fn (.method "logtide/event.text") [t178] [] : D)).bind fun t186 =>
    (dNilCheck tab t186).bind fun t187 =>
    (some (t178 : D)).bind fun t188 =>
    (callI tab R "logtide/event.text" [t188, t185] p177.2).bind fun p189 =>
    (dBin tab .add ty3 (nth 1 ds_2) (.int .i64 1)).bind fun t190 =>
    (some (t190 : D)).bind fun t146_1 =>
    some (.nrm, [t9, t146_1, t147, t155], p189.2)) fun x_4 => toEnd (unblk 5 x_4) ((dBin tab .add ty3 (nth 1 ds_2) (.int .i64 1)).bind fun t190_1 =>
    (some (t190_1 : D)).bind fun t146_2 =>
    some (.nrm, [t9, t146_2, t147, t155], r_6.2.2)) fun x_5 => some (x_5, [t9, (nth 1 ds_2), t147, t155], r_6.2.2))
      (some ((.ext 4), [(nth 0 ds_2), (nth 1 ds_2), t147, (nth 3 ds_2)], h_3))
noncomputable def F1133 (t0 : D) (t1 : D) (h : Hp) : Option (D × Hp) :=
  (some (t1 : D)).bind fun t10 =>
  (dNilCheck tab t10).bind fun t11 =>
  (dFieldAddr tab ty74 1 t11).bind fun t12 =>
  (some (t12 : D)).bind fun t4 =>
  (some (t0 : D)).bind fun t13 =>
  (some (t1 : D)).bind fun t14 =>
  (dNilCheck tab t14).bind fun t15 =>
  (dFieldAddr tab ty74 0 t15).bind fun t16 =>
  (some (.fn (.method "logtide/event.text") [t13] [] : D)).bind fun t17 =>
  (dNilCheck tab t17).bind fun t18 =>
  (some (t13 : D)).bind fun t19 =>
  (callI tab R "logtide/event.text" [t19, t16] h).bind fun p20 =>
  (some (t4 : D)).bind fun t21 =>
  (dNilCheck tab t21).bind fun t22 =>
  (dFieldAddr tab ty31 0 t22).bind fun t23 =>
  (some (t4 : D)).bind fun t24 =>
  (dNilCheck tab t24).bind fun t25 =>
  (dFieldAddr tab ty31 1 t25).bind fun t26 =>
  (some (t4 : D)).bind fun t27 =>
  (dNilCheck tab t27).bind fun t28 =>
  (dFieldAddr tab ty31 2 t28).bind fun t29 =>
  (some (t4 : D)).bind fun t30 =>
  (dNilCheck tab t30).bind fun t31 =>
  (dFieldAddr tab ty31 3 t31).bind fun t32 =>
  (pLitF tab ty1133 4 [0, 1, 2, 3] [t23, t26, t29, t32]).bind fun t33 =>
  (dLenT tab ty1133 t33).bind fun t34 =>
  (some (.int .i64 0 : D)).bind fun t35 =>
  ((loopW (F1133_L0 t0 t33 t34) [.any, t35, .any] p20.2).bind fun r =>
    some ((unblk 0 r.1), [(nth 0 r.2.1), (nth 1 r.2.1), (nth 2 r.2.1)], r.2.2)).bind fun r_1 =>
  toEnd r_1.1 ((some (t0 : D)).bind fun t43 =>
  (some (t4 : D)).bind fun t44 =>
  (dNilCheck tab t44).bind fun t45 =>
  (dFieldAddr tab ty31 4 t45).bind fun t46 =>
  (dLoad tab r_1.2.2 ty28 t46).bind fun t47 =>
  (dLenT tab ty28 t47).bind fun t48 =>
  (some (.fn (.method "logtide/event.count") [t43] [] : D)).bind fun t49 =>
  (dNilCheck tab t49).bind fun t50 =>
  (some (t43 : D)).bind fun t51 =>
  (callI tab R "logtide/event.count" [t51, t48] r_1.2.2).bind fun p52 =>
  (some (.int .i64 0 : D)).bind fun t53 =>
  ((loopW (F1133_L1 t0 t4 p52) [.any, .any, t53, .any, .any] p52.2).bind fun r_2 =>
    some ((unblk 2 r_2.1), [(nth 0 r_2.2.1), (nth 1 r_2.2.1), (nth 2 r_2.2.1), (nth 3 r_2.2.1), (nth 4 r_2.2.1)], r_2.2.2)).bind fun r_4 =>
  toEnd r_4.1 ((some (t0 : D)).bind fun t104 =>
  (some (t4 : D)).bind fun t105 =>
  (dNilCheck tab t105).bind fun t106 =>
  (dFieldAddr tab ty31 5 t106).bind fun t107 =>
  (some (.fn (.method "logtide/event.number") [t104] [] : D)).bind fun t108 =>
  (dNilCheck tab t108).bind fun t109 =>
  (some (t104 : D)).bind fun t110 =>
  (callI tab R "logtide/event.number" [t110, t107] r_4.2.2).bind fun p111 =>
  (some (t0 : D)).bind fun t112 =>
  (some (t4 : D)).bind fun t113 =>
  (dNilCheck tab t113).bind fun t114 =>
  (dFieldAddr tab ty31 6 t114).bind fun t115 =>
  (some (.fn (.method "logtide/event.number") [t112] [] : D)).bind fun t116 =>
  (dNilCheck tab t116).bind fun t117 =>
  (some (t112 : D)).bind fun t118 =>
  (callI tab R "logtide/event.number" [t118, t115] p111.2).bind fun p119 =>
  (some (t0 : D)).bind fun t120 =>
  (some (t4 : D)).bind fun t121 =>
  (dNilCheck tab t121).bind fun t122 =>
  (dFieldAddr tab ty31 7 t122).bind fun t123 =>
  (some (.fn (.method "logtide/event.text") [t120] [] : D)).bind fun t124 =>
  (dNilCheck tab t124).bind fun t125 =>
  (some (t120 : D)).bind fun t126 =>
  (callI tab R "logtide/event.text" [t126, t123] p119.2).bind fun p127 =>
  (some (t0 : D)).bind fun t128 =>
  (some (t4 : D)).bind fun t129 =>
  (dNilCheck tab t129).bind fun t130 =>
  (dFieldAddr tab ty31 8 t130).bind fun t131 =>
  (some (.fn (.method "logtide/event.text") [t128] [] : D)).bind fun t132 =>
  (dNilCheck tab t132).bind fun t133 =>
  (some (t128 : D)).bind fun t134 =>
  (callI tab R "logtide/event.text" [t134, t131] p127.2).bind fun p135 =>
  (some (t0 : D)).bind fun t136 =>
  (some (t4 : D)).bind fun t137 =>
  (dNilCheck tab t137).bind fun t138 =>
  (dFieldAddr tab ty31 9 t138).bind fun t139 =>
  (dLoad tab p135.2 ty29 t139).bind fun t140 =>
  (dLenT tab ty29 t140).bind fun t141 =>
  (some (.fn (.method "logtide/event.count") [t136] [] : D)).bind fun t142 =>
  (dNilCheck tab t142).bind fun t143 =>
  (some (t136 : D)).bind fun t144 =>
  (callI tab R "logtide/event.count" [t144, t141] p135.2).bind fun p145 =>
  (some (.int .i64 0 : D)).bind fun t146 =>
  ((loopW (F1133_L2 t0 t4 p145) [.any, t146, .any, .any] p145.2).bind fun r_5 =>
    some ((unblk 4 r_5.1), [(nth 0 r_5.2.1), (nth 1 r_5.2.1), (nth 2 r_5.2.1), (nth 3 r_5.2.1)], r_5.2.2)).bind fun r_7 =>
  exEnd r_7.1 ((some ([] : List D)).bind fun ds => some (mkRes ds, r_7.2.2))) fun x_3 => exEnd x_3 ((some ([] : List D)).bind fun ds => some (mkRes ds, r_4.2.2))) fun x => exEnd x ((some ([] : List D)).bind fun ds => some (mkRes ds, r_1.2.2))
theorem e1133 (t0 : D) (t1 : D) (h : Hp) : R fn1133 [t0, t1] h = F1133 t0 t1 h :=
  (run_fn (X := X) (F := Fs) (fi := i32) (by kernel_rfl) _ _).trans (by kernel_rfl)
/-- a loop: slots 0 7 12 -/
noncomputable def F1134_L0 (t1 : D) (ds : List D) (h_1 : Hp) : Option Out :=
    (some ((nth 1 ds) : D)).bind fun t11 =>
    (dBin tab .geq ty3 t11 (.int .i64 0)).bind fun t12 =>
    dIf t12
      ((some ((nth 0 ds) : D)).bind fun t15 =>
    (some (t1 : D)).bind fun t16 =>
    (some ((nth 1 ds) : D)).bind fun t17 =>
    (dBin tab .shr ty1029 t16 t17).bind fun t18 =>
    (dConv tab ty1029 ty5 t18).bind fun t19 =>
    (pLitF tab ty22 1 [0] [t19]).bind fun t20 =>
    (dAppend tab h_1 ty22 ty22 t15 t20).bind fun p21 =>
    (some (p21.1 : D)).bind fun t0_1 =>
    (some ((nth 1 ds) : D)).bind fun t13 =>
    (dBin tab .sub ty3 t13 (.int .i64 8)).bind fun t14 =>
    (some (t14 : D)).bind fun t7_1 =>
    some (.nrm, [t0_1, t7_1, t12], p21.2))
      (some ((.ext 0), [(nth 0 ds), (nth 1 ds), t12], h_1))
noncomputable def F1134 (t0 : D) (t1 : D) (t2 : D) (h : Hp) : Option (D × Hp) :=
  (some (.nils : D)).bind fun t6 =>
  (some (t2 : D)).bind fun t8 =>
  (dBin tab .sub ty3 t8 (.int .i64 1)).bind fun t9 =>
  (dBin tab .mul ty3 (.int .i64 8) t9).bind fun t10 =>
  (some (t10 : D)).bind fun t7 =>
  ((loopW (F1134_L0 t1) [t0, t7, .any] h).bind fun r =>
    some ((unblk 0 r.1), [(nth 0 r.2.1), (nth 1 r.2.1), (nth 2 r.2.1)], r.2.2)).bind fun r_1 =>
  toEnd r_1.1 ((some ((nth 0 r_1.2.1) : D)).bind fun t22 =>
  (some (t22 : D)).bind fun t6_1 =>
  ((some (t6_1 : D)).bind fun d => (some ([] : List D)).bind fun ds => some (d :: ds)).bind fun ds => some (mkRes ds, r_1.2.2)) fun x => exEnd x (((some (t6 : D)).bind fun d => (some ([] : List D)).bind fun ds => some (d :: ds)).bind fun ds => some (mkRes ds, r_1.2.2))
theorem e1134 (t0 : D) (t1 : D) (t2 : D) (h : Hp) : R fn1134 [t0, t1, t2] h = F1134 t0 t1 t2 h :=
  (run_fn (X := X) (F := Fs) (fi := i33) (by kernel_rfl) _ _).trans (by kernel_rfl)
/-- a loop: slots 3 5 8 9 -/
noncomputable def F1135_L0 (t6 : D) (t7 : D) (ds : List D) (h_1 : Hp) : Option Out :=
    (dBin tab .lss ty3 (nth 2 ds) t7).bind fun t9 =>
    dIf t9
      ((dIndexAddr tab ty22 t6 (nth 2 ds)).bind fun t10 =>
    (dLoad tab h_1 ty5 t10).bind fun t11 =>
    (some (t11 : D)).bind fun t5 =>
    (some ((nth 0 ds) : D)).bind fun t12 =>
    (dBin tab .mul ty1029 t12 (.int .u64 31)).bind fun t13 =>
    (some (t5 : D)).bind fun t14 =>
    (dConv tab ty5 ty1029 t14).bind fun t15 =>
    (dBin tab .add ty1029 t13 t15).bind fun t16 =>
    (dBin tab .rem ty1029 t16 (.int .u64 4294967291)).bind fun t17 =>
    (some (t17 : D)).bind fun t3_1 =>
    (dBin tab .add ty3 (nth 2 ds) (.int .i64 1)).bind fun t18 =>
    (some (t18 : D)).bind fun t8_1 =>
    some (.nrm, [t3_1, t5, t8_1, t9], h_1))
      (some ((.ext 0), [(nth 0 ds), (nth 1 ds), (nth 2 ds), t9], h_1))
noncomputable def F1135 (t0 : D) (h : Hp) : Option (D × Hp) :=
  (some (.int .u64 0 : D)).bind fun t2 =>
  (some (.int .u64 1 : D)).bind fun t3 =>
  (some (t0 : D)).bind fun t6 =>
  (dLenT tab ty22 t6).bind fun t7 =>
  (some (.int .i64 0 : D)).bind fun t8 =>
  ((loopW (F1135_L0 t6 t7) [t3, .any, t8, .any] h).bind fun r =>
    some ((unblk 0 r.1), [(nth 0 r.2.1), (nth 1 r.2.1), (nth 2 r.2.1), (nth 3 r.2.1)], r.2.2)).bind fun r_1 =>
  toEnd r_1.1 ((some ((nth 0 r_1.2.1) : D)).bind fun t19 =>
  (some (t19 : D)).bind fun t2_1 =>
  ((some (t2_1 : D)).bind fun d => (some ([] : List D)).bind fun ds => some (d :: ds)).bind fun ds => some (mkRes ds, r_1.2.2)) fun x => exEnd x (((some (t2 : D)).bind fun d => (some ([] : List D)).bind fun ds => some (d :: ds)).bind fun ds => some (mkRes ds, r_1.2.2))
theorem e1135 (t0 : D) (h : Hp) : R fn1135 [t0] h = F1135 t0 h :=
  (run_fn (X := X) (F := Fs) (fi := i34) (by kernel_rfl) _ _).trans (by kernel_rfl)
/-- a loop: slots 3 5 8 9 -/
noncomputable def F1136_L0 (t6 : D) (t7 : D) (ds : List D) (h_1 : Hp) : Option Out :=
    (dBin tab .lss ty3 (nth 2 ds) t7).bind fun t9 =>
    dIf t9
      ((dIndexAddr tab ty22 t6 (nth 2 ds)).bind fun t10 =>
    (dLoad tab h_1 ty5 t10).bind fun t11 =>
    (some (t11 : D)).bind fun t5 =>
    (some ((nth 0 ds) : D)).bind fun t12 =>
    (dBin tab .shl ty1029 t12 (.int .u64 8)).bind fun t13 =>
    (some (t5 : D)).bind fun t14 =>
    (dConv tab ty5 ty1029 t14).bind fun t15 =>
    (dBin tab .or ty1029 t13 t15).bind fun t16 =>
    (some (t16 : D)).bind fun t3_1 =>
    (dBin tab .add ty3 (nth 2 ds) (.int .i64 1)).bind fun t17 =>
    (some (t17 : D)).bind fun t8_1 =>
    some (.nrm, [t3_1, t5, t8_1, t9], h_1))
      (some ((.ext 0), [(nth 0 ds), (nth 1 ds), (nth 2 ds), t9], h_1))
noncomputable def F1136 (t0 : D) (h : Hp) : Option (D × Hp) :=
  (some (.int .u64 0 : D)).bind fun t2 =>
  (some (.int .u64 0 : D)).bind fun t3 =>
  (some (t0 : D)).bind fun t6 =>
  (dLenT tab ty22 t6).bind fun t7 =>
  (some (.int .i64 0 : D)).bind fun t8 =>
  ((loopW (F1136_L0 t6 t7) [t3, .any, t8, .any] h).bind fun r =>
    some ((unblk 0 r.1), [(nth 0 r.2.1), (nth 1 r.2.1), (nth 2 r.2.1), (nth 3 r.2.1)], r.2.2)).bind fun r_1 =>
  toEnd r_1.1 ((some ((nth 0 r_1.2.1) : D)).bind fun t18 =>
  (some (t18 : D)).bind fun t2_1 =>
  ((some (t2_1 : D)).bind fun d => (some ([] : List D)).bind fun ds => some (d :: ds)).bind fun ds => some (mkRes ds, r_1.2.2)) fun x => exEnd x (((some (t2 : D)).bind fun d => (some ([] : List D)).bind fun ds => some (d :: ds)).bind fun ds => some (mkRes ds, r_1.2.2))
theorem e1136 (t0 : D) (h : Hp) : R fn1136 [t0] h = F1136 t0 h :=
  (run_fn (X := X) (F := Fs) (fi := i35) (by kernel_rfl) _ _).trans (by kernel_rfl)
/-- a loop: slots 4 5 14 25 -/
noncomputable def F94_L0 (t0 : D) (t1 : D) (ds : List D) (h_1 : Hp) : Option Out :=
    (some ((nth 1 ds) : D)).bind fun t11 =>
    (some (t0 : D)).bind fun t12 =>
    (dLenT tab ty28 t12).bind fun t13 =>
    (dBin tab .lss ty3 t11 t13).bind fun t14 =>
    dIf t14
      ((some (t0 : D)).bind fun t17 =>
    (some ((nth 1 ds) : D)).bind fun t18 =>
    (dIndexAddr tab ty28 t17 t18).bind fun t19 =>
    (dLoad tab h_1 ty78 t19).bind fun t20 =>
    (some (t1 : D)).bind fun t21 =>
    (some ((nth 1 ds) : D)).bind fun t22 =>
    (dIndexAddr tab ty28 t21 t22).bind fun t23 =>
    (dLoad tab h_1 ty78 t23).bind fun t24 =>
    (dBin tab .neq ty78 t20 t24).bind fun t25 =>
    dIf t25
      ((some (.bool false : D)).bind fun t4_2 =>
      some (.ret, [t4_2, (nth 1 ds), t14, t25], h_1))
      ((some ((nth 1 ds) : D)).bind fun t15 =>
    (dBin tab .add ty3 t15 (.int .i64 1)).bind fun t16 =>
    (some (t16 : D)).bind fun t5_1 =>
    some (.nrm, [(nth 0 ds), t5_1, t14, t25], h_1)))
      (some ((.ext 0), [(nth 0 ds), (nth 1 ds), t14, (nth 3 ds)], h_1))
noncomputable def F94 (t0 : D) (t1 : D) (h : Hp) : Option (D × Hp) :=
  (some (.bool false : D)).bind fun t4 =>
  (some (t0 : D)).bind fun t6 =>
  (dLenT tab ty28 t6).bind fun t7 =>
  (some (t1 : D)).bind fun t8 =>
  (dLenT tab ty28 t8).bind fun t9 =>
  (dBin tab .neq ty3 t7 t9).bind fun t10 =>
  dIf t10
    ((some (.bool false : D)).bind fun t4_1 =>
    ((some (t4_1 : D)).bind fun d => (some ([] : List D)).bind fun ds => some (d :: ds)).bind fun ds => some (mkRes ds, h))
    ((some (.int .i64 0 : D)).bind fun t5 =>
  ((loopW (F94_L0 t0 t1) [t4, t5, .any, .any] h).bind fun r =>
    some ((unblk 0 r.1), [(nth 0 r.2.1), (nth 1 r.2.1), (nth 2 r.2.1), (nth 3 r.2.1)], r.2.2)).bind fun r_1 =>
  toEnd r_1.1 ((some (.bool true : D)).bind fun t4_3 =>
  ((some (t4_3 : D)).bind fun d => (some ([] : List D)).bind fun ds => some (d :: ds)).bind fun ds => some (mkRes ds, r_1.2.2)) fun x => exEnd x (((some ((nth 0 r_1.2.1) : D)).bind fun d => (some ([] : List D)).bind fun ds => some (d :: ds)).bind fun ds => some (mkRes ds, r_1.2.2)))
theorem e94 (t0 : D) (t1 : D) (h : Hp) : R fn94 [t0, t1] h = F94 t0 t1 h :=
  (run_fn (X := X) (F := Fs) (fi := i36) (by kernel_rfl) _ _).trans (by kernel_rfl)
/-- a loop: slots 4 5 14 25 -/
noncomputable def F95_L0 (t0 : D) (t1 : D) (ds : List D) (h_1 : Hp) : Option Out :=
    (some ((nth 1 ds) : D)).bind fun t11 =>
    (some (t0 : D)).bind fun t12 =>
    (dLenT tab ty29 t12).bind fun t13 =>
    (dBin tab .lss ty3 t11 t13).bind fun t14 =>
    dIf t14
      ((some (t0 : D)).bind fun t17 =>
    (some ((nth 1 ds) : D)).bind fun t18 =>
    (dIndexAddr tab ty29 t17 t18).bind fun t19 =>
    (dLoad tab h_1 ty109 t19).bind fun t20 =>
    (some (t1 : D)).bind fun t21 =>
    (some ((nth 1 ds) : D)).bind fun t22 =>
    (dIndexAddr tab ty29 t21 t22).bind fun t23 =>
    (dLoad tab h_1 ty109 t23).bind fun t24 =>
    (dBin tab .neq ty109 t20 t24).bind fun t25 =>
    dIf t25
      ((some (.bool false : D)).bind fun t4_2 =>
      some (.ret, [t4_2, (nth 1 ds), t14, t25], h_1))
      ((some ((nth 1 ds) : D)).bind fun t15 =>
    (dBin tab .add ty3 t15 (.int .i64 1)).bind fun t16 =>
    (some (t16 : D)).bind fun t5_1 =>
    some (.nrm, [(nth 0 ds), t5_1, t14, t25], h_1)))
      (some ((.ext 0), [(nth 0 ds), (nth 1 ds), t14, (nth 3 ds)], h_1))
noncomputable def F95 (t0 : D) (t1 : D) (h : Hp) : Option (D × Hp) :=
  (some (.bool false : D)).bind fun t4 =>
  (some (t0 : D)).bind fun t6 =>
  (dLenT tab ty29 t6).bind fun t7 =>
  (some (t1 : D)).bind fun t8 =>
  (dLenT tab ty29 t8).bind fun t9 =>
  (dBin tab .neq ty3 t7 t9).bind fun t10 =>
  dIf t10
    ((some (.bool false : D)).bind fun t4_1 =>
    ((some (t4_1 : D)).bind fun d => (some ([] : List D)).bind fun ds => some (d :: ds)).bind fun ds => some (mkRes ds, h))
    ((some (.int .i64 0 : D)).bind fun t5 =>
  ((loopW (F95_L0 t0 t1) [t4, t5, .any, .any] h).bind fun r =>
    some ((unblk 0 r.1), [(nth 0 r.2.1), (nth 1 r.2.1), (nth 2 r.2.1), (nth 3 r.2.1)], r.2.2)).bind fun r_1 =>
  toEnd r_1.1 ((some (.bool true : D)).bind fun t4_3 =>
  ((some (t4_3 : D)).bind fun d => (some ([] : List D)).bind fun ds => some (d :: ds)).bind fun ds => some (mkRes ds, r_1.2.2)) fun x => exEnd x (((some ((nth 0 r_1.2.1) : D)).bind fun d => (some ([] : List D)).bind fun ds => some (d :: ds)).bind fun ds => some (mkRes ds, r_1.2.2)))
theorem e95 (t0 : D) (t1 : D) (h : Hp) : R fn95 [t0, t1] h = F95 t0 t1 h :=
  (run_fn (X := X) (F := Fs) (fi := i37) (by kernel_rfl) _ _).trans (by kernel_rfl)
/-- a loop: slots 3 16 17 -/
noncomputable def F1033_L1 (ds_1 : List D) (h_2 : Hp) : Option Out :=
    (dBin tab .lss ty3 (nth 1 ds_1) (.int .i64 8)).bind fun t17 =>
    dIf t17
      ((some ((nth 0 ds_1) : D)).bind fun t18 =>
    (dBin tab .shr ty65 t18 (.int .u64 1)).bind fun t19 =>
    (some ((nth 0 ds_1) : D)).bind fun t20 =>
    (dBin tab .and ty65 t20 (.int .u32 1)).bind fun t21 =>
    (dUn .neg t21).bind fun t22 =>
    (dBin tab .and ty65 (.int .u32 3988292384) t22).bind fun t23 =>
    (dBin tab .xor ty65 t19 t23).bind fun t24 =>
    (some (t24 : D)).bind fun t3_2 =>
    (dBin tab .add ty3 (nth 1 ds_1) (.int .i64 1)).bind fun t25 =>
    (some (t25 : D)).bind fun t16_1 =>
    some (.nrm, [t3_2, t16_1, t17], h_2))
      (some ((.ext 2), [(nth 0 ds_1), (nth 1 ds_1), t17], h_2))
/-- a loop: slots 3 5 8 9 16 17 -/
noncomputable def F1033_L0 (t6 : D) (t7 : D) (ds : List D) (h_1 : Hp) : Option Out :=
    (dBin tab .lss ty3 (nth 2 ds) t7).bind fun t9 =>
    dIf t9
      ((dIndexAddr tab ty22 t6 (nth 2 ds)).bind fun t10 =>
    (dLoad tab h_1 ty5 t10).bind fun t11 =>
    (some (t11 : D)).bind fun t5 =>
    (some ((nth 0 ds) : D)).bind fun t12 =>
    (some (t5 : D)).bind fun t13 =>
    (dConv tab ty5 ty65 t13).bind fun t14 =>
    (dBin tab .xor ty65 t12 t14).bind fun t15 =>
    (some (t15 : D)).bind fun t3_1 =>
    (some (.int .i64 0 : D)).bind fun t16 =>
    ((loopW (F1033_L1) [t3_1, t16, (nth 5 ds)] h_1).bind fun r_1 =>
      some ((unblk 2 r_1.1), [(nth 0 r_1.2.1), (nth 1 r_1.2.1), (nth 2 r_1.2.1)], r_1.2.2)).bind fun r_2 =>
    toEnd (unblk 1 r_2.1) ((dBin tab .add ty3 (nth 2 ds) (.int .i64 1)).bind fun t26 =>
    (some (t26 : D)).bind fun t8_1 =>
    some (.nrm, [(nth 0 r_2.2.1), t5, t8_1, t9, (nth 1 r_2.2.1), (nth 2 r_2.2.1)], r_2.2.2)) fun x => some (x, [(nth 0 r_2.2.1), t5, (nth 2 ds), t9, (nth 1 r_2.2.1), (nth 2 r_2.2.1)], r_2.2.2))
      (some ((.ext 0), [(nth 0 ds), (nth 1 ds), (nth 2 ds), t9, (nth 4 ds), (nth 5 ds)], h_1))
noncomputable def F1033 (t0 : D) (h : Hp) : Option (D × Hp) :=
  (some (.int .u32 0 : D)).bind fun t2 =>
  (some (.int .u32 4294967295 : D)).bind fun t3 =>
  (some (t0 : D)).bind fun t6 =>
  (dLenT tab ty22 t6).bind fun t7 =>
  (some (.int .i64 0 : D)).bind fun t8 =>
  ((loopW (F1033_L0 t6 t7) [t3, .any, t8, .any, .any, .any] h).bind fun r =>
    some ((unblk 0 r.1), [(nth 0 r.2.1), (nth 1 r.2.1), (nth 2 r.2.1), (nth 3 r.2.1), (nth 4 r.2.1), (nth 5 r.2.1)], r.2.2)).bind fun r_3 =>
  toEnd r_3.1 ((some ((nth 0 r_3.2.1) : D)).bind fun t27 =>
  (dUn .xor t27).bind fun t28 =>
  (some (t28 : D)).bind fun t2_1 =>
  ((some (t2_1 : D)).bind fun d => (some ([] : List D)).bind fun ds => some (d :: ds)).bind fun ds => some (mkRes ds, r_3.2.2)) fun x_1 => exEnd x_1 (((some (t2 : D)).bind fun d => (some ([] : List D)).bind fun ds => some (d :: ds)).bind fun ds => some (mkRes ds, r_3.2.2))
theorem e1033 (t0 : D) (h : Hp) : R fn1033 [t0] h = F1033 t0 h :=
  (run_fn (X := X) (F := Fs) (fi := i38) (by kernel_rfl) _ _).trans (by kernel_rfl)
noncomputable def F1032 (t0 : D) (t1 : D) (h : Hp) : Option (D × Hp) :=
  (some (.nils : D)).bind fun t4 =>
  (some (t1 : D)).bind fun t5 =>
  (dBin tab .lss ty3 t5 (.int .i64 0)).bind fun t6 =>
  (dIf t6
    (((none : Option D)).bind fun t7 =>
    ((none : Option D)).bind fun t901 =>
    some (.nrm, ([] : List D), h))
    (some (.nrm, ([] : List D), h))).bind fun r =>
  toEnd r.1 ((some (t1 : D)).bind fun t8 =>
  (some (t0 : D)).bind fun t9 =>
  (dCapT tab ty22 t9).bind fun t10 =>
  (some (t0 : D)).bind fun t11 =>
  (dLenT tab ty22 t11).bind fun t12 =>
  (dBin tab .sub ty3 t10 t12).bind fun t13 =>
  (dBin tab .sub ty3 t8 t13).bind fun t14 =>
  (some (t14 : D)).bind fun t1_1 =>
  (some (t1_1 : D)).bind fun t15 =>
  (dBin tab .gtr ty3 t15 (.int .i64 0)).bind fun t16 =>
  (dIf t16
    ((some (t0 : D)).bind fun t17 =>
    (some (t0 : D)).bind fun t18 =>
    (dCapT tab ty22 t18).bind fun t19 =>
    (dSliceAt tab ty22 false true false [t17, t19]).bind fun t20 =>
    (some (t1_1 : D)).bind fun t21 =>
    (dAppend tab r.2.2 ty22 ty3 t20 t21).bind fun p22 =>
    (some (t0 : D)).bind fun t23 =>
    (dLenT tab ty22 t23).bind fun t24 =>
    (dSliceAt tab ty22 false true false [p22.1, t24]).bind fun t25 =>
    (some (t25 : D)).bind fun t0_1 =>
    some (.nrm, [t0_1], p22.2))
    (some (.nrm, [t0], r.2.2))).bind fun r_1 =>
  toEnd r_1.1 ((some ((nth 0 r_1.2.1) : D)).bind fun t26 =>
  (some (t26 : D)).bind fun t4_1 =>
  ((some (t4_1 : D)).bind fun d => (some ([] : List D)).bind fun ds => some (d :: ds)).bind fun ds => some (mkRes ds, r_1.2.2)) fun x_1 => exEnd x_1 (((some (t4 : D)).bind fun d => (some ([] : List D)).bind fun ds => some (d :: ds)).bind fun ds => some (mkRes ds, r_1.2.2))) fun x => exEnd x (((some (t4 : D)).bind fun d => (some ([] : List D)).bind fun ds => some (d :: ds)).bind fun ds => some (mkRes ds, r.2.2))
theorem e1032 (t0 : D) (t1 : D) (h : Hp) : R fn1032 [t0, t1] h = F1032 t0 t1 h :=
  (run_fn (X := X) (F := Fs) (fi := i39) (by kernel_rfl) _ _).trans (by kernel_rfl)
/-- a loop: slots 10 11 12 13 24 -/
noncomputable def F84_L0 (t0 : D) (p9 : D × Hp) (ds : List D) (h_1 : Hp) : Option Out :=
    (some ((nth 1 ds) : D)).bind fun t23 =>
    (dBin tab .gtr ty3 t23 (.int .i64 0)).bind fun t24 =>
    dIf t24
      ((some (t0 : D)).bind fun t27 =>
    (R fn96 [t27] h_1).bind fun p28 =>
    (some (p28.1 : D)).bind fun t12 =>
    (some (t12 : D)).bind fun t29 =>
    (dLenT tab ty9 t29).bind fun t30 =>
    (dBin tab .add ty3 t30 (.int .i64 1)).bind fun t31 =>
    (some (t0 : D)).bind fun t32 =>
    (R fn24 [t32, .int .i64 2] p28.2).bind fun p33 =>
    (dBin tab .add ty3 t31 p33.1).bind fun t34 =>
    (some (t34 : D)).bind fun t13 =>
    (dFieldAddr tab ty31 4 p9.1).bind fun t35 =>
    (dLoad tab p33.2 ty28 t35).bind fun t36 =>
    (some ((nth 0 ds) : D)).bind fun t37 =>
    (some (t13 : D)).bind fun t38 =>
    (some (t12 : D)).bind fun t39 =>
    (dBuild tab ty78 [0, 1, 2] [t37, t38, t39]).bind fun t40 =>
    (pLitF tab ty28 1 [0] [t40]).bind fun t41 =>
    (dAppend tab p33.2 ty28 ty28 t36 t41).bind fun p42 =>
    (dFieldAddr tab ty31 4 p9.1).bind fun t43 =>
    ((dStore tab p42.2 ty28 t43 p42.1).bind fun h' => some ((.und : D), h')).bind fun p909 =>
    (some ((nth 0 ds) : D)).bind fun t44 =>
    (some (t13 : D)).bind fun t45 =>
    (dBin tab .add ty3 t44 t45).bind fun t46 =>
    (some (t46 : D)).bind fun t10_1 =>
    (some ((nth 1 ds) : D)).bind fun t25 =>
    (dBin tab .sub ty3 t25 (.int .i64 1)).bind fun t26 =>
    (some (t26 : D)).bind fun t11_1 =>
    some (.nrm, [t10_1, t11_1, t12, t13, t24], p909.2))
      (some ((.ext 0), [(nth 0 ds), (nth 1 ds), (nth 2 ds), (nth 3 ds), t24], h_1))
/-- a loop: slots 14 56 -/
noncomputable def F84_L1 (p9 : D × Hp) (ds_1 : List D) (h_2 : Hp) : Option Out :=
    (some ((nth 0 ds_1) : D)).bind fun t52 =>
    (dFieldAddr tab ty31 4 p9.1).bind fun t53 =>
    (dLoad tab h_2 ty28 t53).bind fun t54 =>
    (dLenT tab ty28 t54).bind fun t55 =>
    (dBin tab .lss ty3 t52 t55).bind fun t56 =>
    dIf t56
      ((dFieldAddr tab ty31 4 p9.1).bind fun t59 =>
    (dLoad tab h_2 ty28 t59).bind fun t60 =>
    (some ((nth 0 ds_1) : D)).bind fun t61 =>
    (dIndexAddr tab ty28 t60 t61).bind fun t62 =>
    (dFieldAddr tab ty78 2 t62).bind fun t63 =>
    ((dStore tab h_2 ty9 t63 (.str [])).bind fun h' => some ((.und : D), h')).bind fun p905_1 =>
    (some ((nth 0 ds_1) : D)).bind fun t57 =>
    (dBin tab .add ty3 t57 (.int .i64 1)).bind fun t58 =>
    (some (t58 : D)).bind fun t14_1 =>
    some (.nrm, [t14_1, t56], p905_1.2))
      (some ((.ext 2), [(nth 0 ds_1), t56], h_2))
noncomputable def F84 (t0 : D) (t1 : D) (t2 : D) (t3 : D) (h : Hp) : Option (D × Hp) :=
  (some ((.ptr h.length 0 0 : D), dNew h ty74 11 [[.str [], .int .i64 0, .int .i64 0, .int .i64 0, .int .i64 0, .nils, .int .i64 0, .int .i64 0, .str [], .str [], .nils]])).bind fun p8 =>
  (some (t1 : D)).bind fun t15 =>
  (some (t2 : D)).bind fun t16 =>
  (some (t3 : D)).bind fun t17 =>
  (dBuild tab ty31 [0, 1, 2] [t15, t16, t17]).bind fun t18 =>
  (some ((.ptr p8.2.length 0 0 : D), dNew p8.2 ty31 10 [[.int .i64 0, .int .i64 0, .int .i64 0, .int .i64 0, .nils, .int .i64 0, .int .i64 0, .str [], .str [], .nils]])).bind fun p9 =>
  ((dStore tab p9.2 ty31 p9.1 t18).bind fun h' => some ((.und : D), h')).bind fun p905 =>
  (some (t3 : D)).bind fun t19 =>
  (some (t19 : D)).bind fun t10 =>
  (some (t0 : D)).bind fun t20 =>
  (R fn24 [t20, .int .i64 3] p905.2).bind fun p21 =>
  (dBin tab .add ty3 (.int .i64 1) p21.1).bind fun t22 =>
  (some (t22 : D)).bind fun t11 =>
  ((loopW (F84_L0 t0 p9) [t10, t11, .any, .any, .any] p21.2).bind fun r =>
    some ((unblk 0 r.1), [(nth 0 r.2.1), (nth 1 r.2.1), (nth 2 r.2.1), (nth 3 r.2.1), (nth 4 r.2.1)], r.2.2)).bind fun r_1 =>
  toEnd r_1.1 ((some ((nth 0 r_1.2.1) : D)).bind fun t47 =>
  (dFieldAddr tab ty31 3 p9.1).bind fun t48 =>
  ((dStore tab r_1.2.2 ty3 t48 t47).bind fun h' => some ((.und : D), h')).bind fun p902 =>
  (some (t0 : D)).bind fun t49 =>
  (R fn24 [t49, .int .i64 5] p902.2).bind fun p50 =>
  (dBin tab .eql ty3 p50.1 (.int .i64 4)).bind fun t51 =>
  dIf t51
    ((some (.int .i64 0 : D)).bind fun t14 =>
    ((loopW (F84_L1 p9) [t14, .any] p50.2).bind fun r_2 =>
      some ((unblk 2 r_2.1), [(nth 0 r_2.2.1), (nth 1 r_2.2.1)], r_2.2.2)).bind fun r_3 =>
    toEnd r_3.1 ((pLitF tab ty98 3 [0, 1, 2] [.str [115, 97, 109, 112, 108, 101], .str [100, 114, 111, 112], .str [116, 111, 111, 45, 108, 111, 110, 103]]).bind fun t64 =>
    (some (t0 : D)).bind fun t65 =>
    (R fn24 [t65, .int .i64 3] r_3.2.2).bind fun p66 =>
    (dIndexAddr tab ty98 t64 p66.1).bind fun t67 =>
    (dLoad tab p66.2 ty9 t67).bind fun t68 =>
    (dLoad tab p66.2 ty31 p9.1).bind fun t69 =>
    (dBuild tab ty74 [0, 1] [t68, t69]).bind fun t70 =>
    chk (dLoad tab r_3.2.2 ty31 p9.1 = some t69)
    (((dStore tab p66.2 ty74 p8.1 t70).bind fun h' => some ((.und : D), h')).bind fun p907 =>
    ((some (p8.1 : D)).bind fun p => (dLoad tab p907.2 ty74 p).bind fun d => (some ([] : List D)).bind fun ds => some (d :: ds)).bind fun ds => scope h p907.2 (mkRes ds))) fun x_1 => toEnd x_1 ((some (t0 : D)).bind fun t71 =>
  (R fn35 [t71] r_3.2.2).bind fun p72 =>
  (some (t0 : D)).bind fun t73 =>
  (R fn97 [t73] p72.2).bind fun p74 =>
  (dFieldAddr tab ty31 5 p9.1).bind fun t75 =>
  ((dStore tab p74.2 ty3 t75 p72.1).bind fun h' => some ((.und : D), h')).bind fun p905_2 =>
  (dFieldAddr tab ty31 6 p9.1).bind fun t76 =>
  ((dStore tab p905_2.2 ty3 t76 p74.1).bind fun h' => some ((.und : D), h')).bind fun p907_1 =>
  (pLitF tab ty98 4 [0, 1, 2, 3] [.str [116, 49], .str [116, 50], .str [], .str [49, 58, 50, 58, 48]]).bind fun t77 =>
  (some (t0 : D)).bind fun t78 =>
  (R fn24 [t78, .int .i64 4] p907_1.2).bind fun p79 =>
  (dIndexAddr tab ty98 t77 p79.1).bind fun t80 =>
  (dLoad tab p79.2 ty9 t80).bind fun t81 =>
  (pLitF tab ty98 2 [0, 1] [.str [109, 97, 105, 110], .str [100, 101, 98, 117, 103]]).bind fun t82 =>
  (some (t0 : D)).bind fun t83 =>
  (R fn24 [t83, .int .i64 2] p79.2).bind fun p84 =>
  (dIndexAddr tab ty98 t82 p84.1).bind fun t85 =>
  (dLoad tab p84.2 ty9 t85).bind fun t86 =>
  (dFieldAddr tab ty31 7 p9.1).bind fun t87 =>
  ((dStore tab p84.2 ty9 t87 t81).bind fun h' => some ((.und : D), h')).bind fun p911 =>
  chk (dLoad tab p84.2 ty9 t80 = some t81)
  (chk (dLoad tab p911.2 ty9 t85 = some t86)
  ((dFieldAddr tab ty31 8 p9.1).bind fun t88 =>
  ((dStore tab p911.2 ty9 t88 t86).bind fun h' => some ((.und : D), h')).bind fun p913 =>
  (some (t0 : D)).bind fun t89 =>
  (R fn98 [t89] p913.2).bind fun p90 =>
  (dFieldAddr tab ty31 9 p9.1).bind fun t91 =>
  ((dStore tab p90.2 ty29 t91 p90.1).bind fun h' => some ((.und : D), h')).bind fun p903 =>
  (dLoad tab p903.2 ty31 p9.1).bind fun t92 =>
  (dBuild tab ty74 [1] [t92]).bind fun t93 =>
  ((dStore tab p903.2 ty74 p8.1 t93).bind fun h' => some ((.und : D), h')).bind fun p902_1 =>
  ((some (p8.1 : D)).bind fun p => (dLoad tab p902_1.2 ty74 p).bind fun d => (some ([] : List D)).bind fun ds => some (d :: ds)).bind fun ds => scope h p902_1.2 (mkRes ds)))) fun x_2 => exEnd x_2 (((some (p8.1 : D)).bind fun p => (dLoad tab r_3.2.2 ty74 p).bind fun d => (some ([] : List D)).bind fun ds => some (d :: ds)).bind fun ds => scope h r_3.2.2 (mkRes ds)))
    ((some (t0 : D)).bind fun t71_1 =>
  (R fn35 [t71_1] p50.2).bind fun p72_1 =>
  (some (t0 : D)).bind fun t73_1 =>
  (R fn97 [t73_1] p72_1.2).bind fun p74_1 =>
  (dFieldAddr tab ty31 5 p9.1).bind fun t75_1 =>
  ((dStore tab p74_1.2 ty3 t75_1 p72_1.1).bind fun h' => some ((.und : D), h')).bind fun p905_3 =>
  (dFieldAddr tab ty31 6 p9.1).bind fun t76_1 =>
  ((dStore tab p905_3.2 ty3 t76_1 p74_1.1).bind fun h' => some ((.und : D), h')).bind fun p907_2 =>
  (pLitF tab ty98 4 [0, 1, 2, 3] [.str [116, 49], .str [116, 50], .str [], .str [49, 58, 50, 58, 48]]).bind fun t77_1 =>
  (some (t0 : D)).bind fun t78_1 =>
  (R fn24 [t78_1, .int .i64 4] p907_2.2).bind fun p79_1 =>
  (dIndexAddr tab ty98 t77_1 p79_1.1).bind fun t80_1 =>
  (dLoad tab p79_1.2 ty9 t80_1).bind fun t81_1 =>
  (pLitF tab ty98 2 [0, 1] [.str [109, 97, 105, 110], .str [100, 101, 98, 117, 103]]).bind fun t82_1 =>
  (some (t0 : D)).bind fun t83_1 =>
  (R fn24 [t83_1, .int .i64 2] p79_1.2).bind fun p84_1 =>
  (dIndexAddr tab ty98 t82_1 p84_1.1).bind fun t85_1 =>
  (dLoad tab p84_1.2 ty9 t85_1).bind fun t86_1 =>
  (dFieldAddr tab ty31 7 p9.1).bind fun t87_1 =>
  ((dStore tab p84_1.2 ty9 t87_1 t81_1).bind fun h' => some ((.und : D), h')).bind fun p911_1 =>
  chk (dLoad tab p84_1.2 ty9 t80_1 = some t81_1)
  (chk (dLoad tab p911_1.2 ty9 t85_1 = some t86_1)
  ((dFieldAddr tab ty31 8 p9.1).bind fun t88_1 =>
  ((dStore tab p911_1.2 ty9 t88_1 t86_1).bind fun h' => some ((.und : D), h')).bind fun p913_1 =>
  (some (t0 : D)).bind fun t89_1 =>
  (R fn98 [t89_1] p913_1.2).bind fun p90_1 =>
  (dFieldAddr tab ty31 9 p9.1).bind fun t91_1 =>
  ((dStore tab p90_1.2 ty29 t91_1 p90_1.1).bind fun h' => some ((.und : D), h')).bind fun p903_1 =>
  (dLoad tab p903_1.2 ty31 p9.1).bind fun t92_1 =>
  (dBuild tab ty74 [1] [t92_1]).bind fun t93_1 =>
  ((dStore tab p903_1.2 ty74 p8.1 t93_1).bind fun h' => some ((.und : D), h')).bind fun p902_2 =>
  ((some (p8.1 : D)).bind fun p => (dLoad tab p902_2.2 ty74 p).bind fun d => (some ([] : List D)).bind fun ds => some (d :: ds)).bind fun ds => scope h p902_2.2 (mkRes ds))))) fun x => exEnd x (((some (p8.1 : D)).bind fun p => (dLoad tab r_1.2.2 ty74 p).bind fun d => (some ([] : List D)).bind fun ds => some (d :: ds)).bind fun ds => scope h r_1.2.2 (mkRes ds))
theorem e84 (t0 : D) (t1 : D) (t2 : D) (t3 : D) (h : Hp) : R fn84 [t0, t1, t2, t3] h = F84 t0 t1 t2 t3 h :=
  (run_fn (X := X) (F := Fs) (fi := i40) (by kernel_rfl) _ _).trans (by kernel_rfl)
noncomputable def F57 (t0 : D) (h : Hp) : Option (D × Hp) :=
  (some (.bool false : D)).bind fun t2 =>
  (some (t0 : D)).bind fun t3 =>
  (dNilCheck tab t3).bind fun t4 =>
  (dFieldAddr tab ty101 1 t4).bind fun t5 =>
  (dLoad tab h ty3 t5).bind fun t6 =>
  (some (t0 : D)).bind fun t7 =>
  (dNilCheck tab t7).bind fun t8 =>
  (dFieldAddr tab ty101 0 t8).bind fun t9 =>
  (dLoad tab h ty22 t9).bind fun t10 =>
  (dLenT tab ty22 t10).bind fun t11 =>
  (dBin tab .lss ty3 t6 t11).bind fun t12 =>
  (some (t12 : D)).bind fun t2_1 =>
  ((some (t2_1 : D)).bind fun d => (some ([] : List D)).bind fun ds => some (d :: ds)).bind fun ds => some (mkRes ds, h)
theorem e57 (t0 : D) (h : Hp) : R fn57 [t0] h = F57 t0 h :=
  (run_fn (X := X) (F := Fs) (fi := i41) (by kernel_rfl) _ _).trans (by kernel_rfl)
/-- a loop: slots 2 3 4 5 14 25 32 35 -/
noncomputable def F1113_L0 (t1 : D) (ds : List D) (h_1 : Hp) : Option Out :=
    (some ((nth 1 ds) : D)).bind fun t10 =>
    (dFieldAddr tab ty1064 2 t1).bind fun t11 =>
    (dLoad tab h_1 ty113 t11).bind fun t12 =>
    (dLenT tab ty113 t12).bind fun t13 =>
    (dBin tab .lss ty3 t10 t13).bind fun t14 =>
    dIf t14
      ((dFieldAddr tab ty1064 2 t1).bind fun t17 =>
    (dLoad tab h_1 ty113 t17).bind fun t18 =>
    (some ((nth 1 ds) : D)).bind fun t19 =>
    (dIndexAddr tab ty113 t18 t19).bind fun t20 =>
    (dLoad tab h_1 ty74 t20).bind fun t21 =>
    (boxN 11 t21).bind fun t4 =>
    (dLoad tab h_1 ty74 t4).bind fun t22 =>
    (R fn1004 [t22] h_1).bind fun p23 =>
    (some (p23.1 : D)).bind fun t5 =>
    (some (t5 : D)).bind fun t24 =>
    (dBin tab .neq ty49 t24 (.int .i64 0)).bind fun t25 =>
    dIf t25
      ((some (t5 : D)).bind fun t26 =>
      (some (t26 : D)).bind fun t2_2 =>
      some (.ret, [t2_2, (nth 1 ds), t4, t5, t14, t25, (nth 6 ds), (nth 7 ds)], p23.2))
      ((dFieldAddr tab ty74 1 t4).bind fun t27 =>
    (dFieldAddr tab ty31 0 t27).bind fun t28 =>
    (dLoad tab p23.2 ty3 t28).bind fun t29 =>
    (dFieldAddr tab ty1064 0 t1).bind fun t30 =>
    (dLoad tab p23.2 ty3 t30).bind fun t31 =>
    (dBin tab .neq ty3 t29 t31).bind fun t32 =>
    dIf t32
      ((some (.int .i64 24 : D)).bind fun t2_3 =>
      some (.ret, [t2_3, (nth 1 ds), t4, t5, t14, t25, t32, (nth 7 ds)], p23.2))
      ((dFieldAddr tab ty74 0 t4).bind fun t33 =>
    (dLoad tab p23.2 ty9 t33).bind fun t34 =>
    (dBin tab .eql ty9 t34 (.str [42])).bind fun t35 =>
    dIf t35
      ((some (.int .i64 6 : D)).bind fun t2_4 =>
      some (.ret, [t2_4, (nth 1 ds), t4, t5, t14, t25, t32, t35], p23.2))
      ((some ((nth 1 ds) : D)).bind fun t15 =>
    (dBin tab .add ty3 t15 (.int .i64 1)).bind fun t16 =>
    (some (t16 : D)).bind fun t3_1 =>
    some (.nrm, [(nth 0 ds), t3_1, t4, t5, t14, t25, t32, t35], p23.2)))))
      (some ((.ext 0), [(nth 0 ds), (nth 1 ds), (nth 2 ds), (nth 3 ds), t14, (nth 5 ds), (nth 6 ds), (nth 7 ds)], h_1))
noncomputable def F1113 (t0 : D) (h : Hp) : Option (D × Hp) :=
  (pBoxF t0).bind fun t1 =>
  (some (.int .i64 0 : D)).bind fun t2 =>
  (dFieldAddr tab ty1064 2 t1).bind fun t6 =>
  (dLoad tab h ty113 t6).bind fun t7 =>
  (dLenT tab ty113 t7).bind fun t8 =>
  (dBin tab .gtr ty3 t8 (.int .i64 40)).bind fun t9 =>
  dIf t9
    ((some (.int .i64 4 : D)).bind fun t2_1 =>
    ((some (t2_1 : D)).bind fun d => (some ([] : List D)).bind fun ds => some (d :: ds)).bind fun ds => some (mkRes ds, h))
    ((some (.int .i64 0 : D)).bind fun t3 =>
  ((loopW (F1113_L0 t1) [t2, t3, .any, .any, .any, .any, .any, .any] h).bind fun r =>
    some ((unblk 0 r.1), [(nth 0 r.2.1), (nth 1 r.2.1), (nth 2 r.2.1), (nth 3 r.2.1), (nth 4 r.2.1), (nth 5 r.2.1), (nth 6 r.2.1), (nth 7 r.2.1)], r.2.2)).bind fun r_1 =>
  toEnd r_1.1 ((some (.int .i64 0 : D)).bind fun t2_5 =>
  ((some (t2_5 : D)).bind fun d => (some ([] : List D)).bind fun ds => some (d :: ds)).bind fun ds => some (mkRes ds, r_1.2.2)) fun x => exEnd x (((some ((nth 0 r_1.2.1) : D)).bind fun d => (some ([] : List D)).bind fun ds => some (d :: ds)).bind fun ds => some (mkRes ds, r_1.2.2)))
theorem e1113 (t0 : D) (h : Hp) : R fn1113 [t0] h = F1113 t0 h :=
  (run_fn (X := X) (F := Fs) (fi := i42) (by kernel_rfl) _ _).trans (by kernel_rfl)
/-- a loop: slots 0 7 11 -/
noncomputable def F1030_L0 (t1 : D) (ds : List D) (h_1 : Hp) : Option Out :=
    (some ((nth 1 ds) : D)).bind fun t10 =>
    (dBin tab .geq ty3 t10 (.int .i64 0)).bind fun t11 =>
    dIf t11
      ((some ((nth 0 ds) : D)).bind fun t14 =>
    (some (t1 : D)).bind fun t15 =>
    (some ((nth 1 ds) : D)).bind fun t16 =>
    (dBin tab .mul ty3 (.int .i64 8) t16).bind fun t17 =>
    (dBin tab .shr ty1029 t15 t17).bind fun t18 =>
    (dConv tab ty1029 ty5 t18).bind fun t19 =>
    (pLitF tab ty22 1 [0] [t19]).bind fun t20 =>
    (dAppend tab h_1 ty22 ty22 t14 t20).bind fun p21 =>
    (some (p21.1 : D)).bind fun t0_1 =>
    (some ((nth 1 ds) : D)).bind fun t12 =>
    (dBin tab .sub ty3 t12 (.int .i64 1)).bind fun t13 =>
    (some (t13 : D)).bind fun t7_1 =>
    some (.nrm, [t0_1, t7_1, t11], p21.2))
      (some ((.ext 0), [(nth 0 ds), (nth 1 ds), t11], h_1))
noncomputable def F1030 (t0 : D) (t1 : D) (t2 : D) (h : Hp) : Option (D × Hp) :=
  (some (.nils : D)).bind fun t6 =>
  (some (t2 : D)).bind fun t8 =>
  (dBin tab .sub ty3 t8 (.int .i64 1)).bind fun t9 =>
  (some (t9 : D)).bind fun t7 =>
  ((loopW (F1030_L0 t1) [t0, t7, .any] h).bind fun r =>
    some ((unblk 0 r.1), [(nth 0 r.2.1), (nth 1 r.2.1), (nth 2 r.2.1)], r.2.2)).bind fun r_1 =>
  toEnd r_1.1 ((some ((nth 0 r_1.2.1) : D)).bind fun t22 =>
  (some (t22 : D)).bind fun t6_1 =>
  ((some (t6_1 : D)).bind fun d => (some ([] : List D)).bind fun ds => some (d :: ds)).bind fun ds => some (mkRes ds, r_1.2.2)) fun x => exEnd x (((some (t6 : D)).bind fun d => (some ([] : List D)).bind fun ds => some (d :: ds)).bind fun ds => some (mkRes ds, r_1.2.2))
theorem e1030 (t0 : D) (t1 : D) (t2 : D) (h : Hp) : R fn1030 [t0, t1, t2] h = F1030 t0 t1 t2 h :=
  (run_fn (X := X) (F := Fs) (fi := i43) (by kernel_rfl) _ _).trans (by kernel_rfl)
noncomputable def F1114 (t0 : D) (h : Hp) : Option (D × Hp) :=
  (pBoxF t0).bind fun t1 =>
  (some (.nils : D)).bind fun t2 =>
  (some (.int .i64 0 : D)).bind fun t3 =>
  (dLoad tab h ty74 t1).bind fun t7 =>
  (R fn1004 [t7] h).bind fun p8 =>
  (some (p8.1 : D)).bind fun t4 =>
  (some (t4 : D)).bind fun t9 =>
  (dBin tab .neq ty49 t9 (.int .i64 0)).bind fun t10 =>
  dIf t10
    ((some (t4 : D)).bind fun t11 =>
    (some (.nils : D)).bind fun t2_1 =>
    (some (t11 : D)).bind fun t3_1 =>
    ((some (t2_1 : D)).bind fun d => ((some (t3_1 : D)).bind fun d => (some ([] : List D)).bind fun ds => some (d :: ds)).bind fun ds => some (d :: ds)).bind fun ds => scope h p8.2 (mkRes ds))
    ((dLoad tab p8.2 ty74 t1).bind fun t12 =>
  (R fn1115 [t12] p8.2).bind fun p13 =>
  (some (p13.1 : D)).bind fun t5 =>
  (some (t5 : D)).bind fun t14 =>
  (dLenT tab ty22 t14).bind fun t15 =>
  (dBin tab .add ty3 t15 (.int .i64 4)).bind fun t16 =>
  (dConv tab ty3 ty1029 t16).bind fun t17 =>
  (R fn1116 [.nils, t17, .int .i64 4] p13.2).bind fun p18 =>
  (some (t5 : D)).bind fun t19 =>
  (dAppend tab p18.2 ty22 ty22 p18.1 t19).bind fun p20 =>
  (some (p20.1 : D)).bind fun t6 =>
  (some (t6 : D)).bind fun t21 =>
  (some (t6 : D)).bind fun t22 =>
  (R fn1117 [t22] p20.2).bind fun p23 =>
  (R fn1116 [t21, p23.1, .int .i64 4] p23.2).bind fun p24 =>
  (some (p24.1 : D)).bind fun t2_2 =>
  (some (.int .i64 0 : D)).bind fun t3_2 =>
  ((some (t2_2 : D)).bind fun d => ((some (t3_2 : D)).bind fun d => (some ([] : List D)).bind fun ds => some (d :: ds)).bind fun ds => some (d :: ds)).bind fun ds => scope h p24.2 (mkRes ds))
theorem e1114 (t0 : D) (h : Hp) : R fn1114 [t0] h = F1114 t0 h :=
  (run_fn (X := X) (F := Fs) (fi := i44) (by kernel_rfl) _ _).trans (by kernel_rfl)
/-- a loop: slots 3 5 20 25 -/
noncomputable def F1031_L1 (ds_1 : List D) (h_2 : Hp) : Option Out :=
    (some ((nth 1 ds_1) : D)).bind fun t19 =>
    (dBin tab .lss ty3 t19 (.int .i64 8)).bind fun t20 =>
    dIf t20
      ((some ((nth 0 ds_1) : D)).bind fun t23 =>
    (dBin tab .and ty65 t23 (.int .u32 1)).bind fun t24 =>
    (dBin tab .eql ty65 t24 (.int .u32 1)).bind fun t25 =>
    (dIf t25
      ((some ((nth 0 ds_1) : D)).bind fun t26 =>
      (dBin tab .shr ty65 t26 (.int .u64 1)).bind fun t27 =>
      (dBin tab .xor ty65 t27 (.int .u32 3988292384)).bind fun t28 =>
      (some (t28 : D)).bind fun t3_2 =>
      some (.nrm, [t3_2], h_2))
      ((some ((nth 0 ds_1) : D)).bind fun t29 =>
      (dBin tab .shr ty65 t29 (.int .u64 1)).bind fun t30 =>
      (some (t30 : D)).bind fun t3_3 =>
      some (.nrm, [t3_3], h_2))).bind fun r_2 =>
    toEnd (unblk 3 r_2.1) ((some ((nth 1 ds_1) : D)).bind fun t21 =>
    (dBin tab .add ty3 t21 (.int .i64 1)).bind fun t22 =>
    (some (t22 : D)).bind fun t5_1 =>
    some (.nrm, [(nth 0 r_2.2.1), t5_1, t20, t25], r_2.2.2)) fun x => some (x, [(nth 0 r_2.2.1), (nth 1 ds_1), t20, t25], r_2.2.2))
      (some ((.ext 2), [(nth 0 ds_1), (nth 1 ds_1), t20, (nth 3 ds_1)], h_2))
/-- a loop: slots 3 4 5 9 20 25 -/
noncomputable def F1031_L0 (t0 : D) (ds : List D) (h_1 : Hp) : Option Out :=
    (some ((nth 1 ds) : D)).bind fun t6 =>
    (some (t0 : D)).bind fun t7 =>
    (dLenT tab ty22 t7).bind fun t8 =>
    (dBin tab .lss ty3 t6 t8).bind fun t9 =>
    dIf t9
      ((some ((nth 0 ds) : D)).bind fun t12 =>
    (some (t0 : D)).bind fun t13 =>
    (some ((nth 1 ds) : D)).bind fun t14 =>
    (dIndexAddr tab ty22 t13 t14).bind fun t15 =>
    (dLoad tab h_1 ty5 t15).bind fun t16 =>
    (dConv tab ty5 ty65 t16).bind fun t17 =>
    (dBin tab .xor ty65 t12 t17).bind fun t18 =>
    (some (t18 : D)).bind fun t3_1 =>
    (some (.int .i64 0 : D)).bind fun t5 =>
    ((loopW (F1031_L1) [t3_1, t5, (nth 4 ds), (nth 5 ds)] h_1).bind fun r_1 =>
      some ((unblk 2 r_1.1), [(nth 0 r_1.2.1), (nth 1 r_1.2.1), (nth 2 r_1.2.1), (nth 3 r_1.2.1)], r_1.2.2)).bind fun r_3 =>
    toEnd (unblk 1 r_3.1) ((some ((nth 1 ds) : D)).bind fun t10 =>
    (dBin tab .add ty3 t10 (.int .i64 1)).bind fun t11 =>
    (some (t11 : D)).bind fun t4_1 =>
    some (.nrm, [(nth 0 r_3.2.1), t4_1, (nth 1 r_3.2.1), t9, (nth 2 r_3.2.1), (nth 3 r_3.2.1)], r_3.2.2)) fun x_1 => some (x_1, [(nth 0 r_3.2.1), (nth 1 ds), (nth 1 r_3.2.1), t9, (nth 2 r_3.2.1), (nth 3 r_3.2.1)], r_3.2.2))
      (some ((.ext 0), [(nth 0 ds), (nth 1 ds), (nth 2 ds), t9, (nth 4 ds), (nth 5 ds)], h_1))
noncomputable def F1031 (t0 : D) (h : Hp) : Option (D × Hp) :=
  (some (.int .u32 0 : D)).bind fun t2 =>
  (some (.int .u32 4294967295 : D)).bind fun t3 =>
  (some (.int .i64 0 : D)).bind fun t4 =>
  ((loopW (F1031_L0 t0) [t3, t4, .any, .any, .any, .any] h).bind fun r =>
    some ((unblk 0 r.1), [(nth 0 r.2.1), (nth 1 r.2.1), (nth 2 r.2.1), (nth 3 r.2.1), (nth 4 r.2.1), (nth 5 r.2.1)], r.2.2)).bind fun r_4 =>
  toEnd r_4.1 ((some ((nth 0 r_4.2.1) : D)).bind fun t31 =>
  (dUn .xor t31).bind fun t32 =>
  (some (t32 : D)).bind fun t2_1 =>
  ((some (t2_1 : D)).bind fun d => (some ([] : List D)).bind fun ds => some (d :: ds)).bind fun ds => some (mkRes ds, r_4.2.2)) fun x_2 => exEnd x_2 (((some (t2 : D)).bind fun d => (some ([] : List D)).bind fun ds => some (d :: ds)).bind fun ds => some (mkRes ds, r_4.2.2))
theorem e1031 (t0 : D) (h : Hp) : R fn1031 [t0] h = F1031 t0 h :=
  (run_fn (X := X) (F := Fs) (fi := i45) (by kernel_rfl) _ _).trans (by kernel_rfl)
noncomputable def F1043 (t0 : D) (h : Hp) : Option (D × Hp) :=
  (pBoxF t0).bind fun t1 =>
  (some (.int .i64 0 : D)).bind fun t2 =>
  (dLoad tab h ty31 t1).bind fun t7 =>
  (R fn1047 [t7] h).bind fun p8 =>
  (dUn .not p8.1).bind fun t9 =>
  (some (t9 : D)).bind fun t10 =>
  (gd t10 false (dFieldAddr tab ty31 5 t1)).bind fun t11 =>
  (gd t10 false (dLoad tab p8.2 ty3 t11)).bind fun t12 =>
  (gdW t10 false p8.2 (R fn1051 [t12, .int .i64 0, .int .i64 253402300799999] p8.2)).bind fun p13 =>
  (gd t10 false (dUn .not p13.1)).bind fun t14 =>
  (dPick t10 (.bool true) t14).bind fun t15 =>
  (some (t15 : D)).bind fun t6 =>
  dIf t6
    ((some (.int .i64 2 : D)).bind fun t2_1 =>
    ((some (t2_1 : D)).bind fun d => (some ([] : List D)).bind fun ds => some (d :: ds)).bind fun ds => scope h p13.2 (mkRes ds))
    ((dFieldAddr tab ty31 6 t1).bind fun t17 =>
    (dLoad tab p13.2 ty3 t17).bind fun t18 =>
    (dBin tab .lss ty3 t18 (.int .i64 1)).bind fun t19 =>
    (some (t19 : D)).bind fun t20 =>
    (gd t20 false (dFieldAddr tab ty31 6 t1)).bind fun t21 =>
    (gd t20 false (dLoad tab p13.2 ty3 t21)).bind fun t22 =>
    (gd t20 false (dBin tab .rem ty3 (.int .i64 5040) t22)).bind fun t23 =>
    (gd t20 false (dBin tab .neq ty3 t23 (.int .i64 0))).bind fun t24 =>
    (dPick t20 (.bool true) t24).bind fun t25 =>
    (some (t25 : D)).bind fun t16 =>
    dIf t16
      ((some (.int .i64 21 : D)).bind fun t2_2 =>
      ((some (t2_2 : D)).bind fun d => (some ([] : List D)).bind fun ds => some (d :: ds)).bind fun ds => scope h p13.2 (mkRes ds))
      ((dLoad tab p13.2 ty31 t1).bind fun t26 =>
  (R fn1048 [t26, .int .i64 2000] p13.2).bind fun p27 =>
  (some (p27.1 : D)).bind fun t3 =>
  (some (t3 : D)).bind fun t28 =>
  (dBin tab .neq ty49 t28 (.int .i64 0)).bind fun t29 =>
  dIf t29
    ((some (t3 : D)).bind fun t30 =>
    (some (t30 : D)).bind fun t2_3 =>
    ((some (t2_3 : D)).bind fun d => (some ([] : List D)).bind fun ds => some (d :: ds)).bind fun ds => scope h p27.2 (mkRes ds))
    ((dFieldAddr tab ty31 7 t1).bind fun t31 =>
  (dLoad tab p27.2 ty9 t31).bind fun t32 =>
  (dLenT tab ty9 t32).bind fun t33 =>
  (dBin tab .gtr ty3 t33 (.int .i64 32)).bind fun t34 =>
  (some (t34 : D)).bind fun t35 =>
  (gd t35 false (dFieldAddr tab ty31 8 t1)).bind fun t36 =>
  (gd t35 false (dLoad tab p27.2 ty9 t36)).bind fun t37 =>
  (gd t35 false (dLenT tab ty9 t37)).bind fun t38 =>
  (gd t35 false (dBin tab .gtr ty3 t38 (.int .i64 32))).bind fun t39 =>
  (dPick t35 (.bool true) t39).bind fun t40 =>
  dIf t40
    ((some (.int .i64 3 : D)).bind fun t2_4 =>
    ((some (t2_4 : D)).bind fun d => (some ([] : List D)).bind fun ds => some (d :: ds)).bind fun ds => scope h p27.2 (mkRes ds))
    ((dFieldAddr tab ty31 9 t1).bind fun t42 =>
  (dLoad tab p27.2 ty29 t42).bind fun t43 =>
  (R fn1052 [t43] p27.2).bind fun p44 =>
  (some (p44.1 : D)).bind fun t41 =>
  (dExtract 0 t41).bind fun t45 =>
  (dExtract 1 t41).bind fun t46 =>
  (some (t45 : D)).bind fun t4 =>
  (some (t46 : D)).bind fun t5 =>
  (some (t5 : D)).bind fun t47 =>
  (dBin tab .neq ty49 t47 (.int .i64 0)).bind fun t48 =>
  dIf t48
    ((some (t5 : D)).bind fun t49 =>
    (some (t49 : D)).bind fun t2_5 =>
    ((some (t2_5 : D)).bind fun d => (some ([] : List D)).bind fun ds => some (d :: ds)).bind fun ds => scope h p44.2 (mkRes ds))
    ((some (t4 : D)).bind fun t50 =>
  (dFieldAddr tab ty31 9 t1).bind fun t51 =>
  (dLoad tab p44.2 ty29 t51).bind fun t52 =>
  (R fn1053 [t50, t52] p44.2).bind fun p53 =>
  (dUn .not p53.1).bind fun t54 =>
  dIf t54
    ((some (.int .i64 19 : D)).bind fun t2_6 =>
    ((some (t2_6 : D)).bind fun d => (some ([] : List D)).bind fun ds => some (d :: ds)).bind fun ds => scope h p53.2 (mkRes ds))
    ((some (t4 : D)).bind fun t55 =>
  (R fn1054 [t55, .fn (.func fn1055) [] []] p53.2).bind fun p56 =>
  dIf p56.1
    ((some (.int .i64 3 : D)).bind fun t2_7 =>
    ((some (t2_7 : D)).bind fun d => (some ([] : List D)).bind fun ds => some (d :: ds)).bind fun ds => scope h p56.2 (mkRes ds))
    ((some (.int .i64 0 : D)).bind fun t2_8 =>
  ((some (t2_8 : D)).bind fun d => (some ([] : List D)).bind fun ds => some (d :: ds)).bind fun ds => scope h p56.2 (mkRes ds))))))))
theorem e1043 (t0 : D) (h : Hp) : R fn1043 [t0] h = F1043 t0 h :=
  (run_fn (X := X) (F := Fs) (fi := i46) (by kernel_rfl) _ _).trans (by kernel_rfl)
end Go.Proofs.YtjhmicmbbgkhpaaDoor
