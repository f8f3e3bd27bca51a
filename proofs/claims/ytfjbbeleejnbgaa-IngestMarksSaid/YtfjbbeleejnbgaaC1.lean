/- Functions as Lean functions on data. -/
import Derived.Test.YtfjbbeleejnbgaaB1
set_option linter.unusedSimpArgs false
set_option linter.unusedVariables false
set_option linter.unnecessarySimpa false
set_option maxRecDepth 100000
namespace Go.Proofs.Ytfjbbeleejnbgaa
open Go.Eng Go.Pi
/-- a loop: slots 8 12 13 14 15 25 26 79 96 -/
noncomputable def F1075_L0 (t2 : D) (t3 : D) (t9 : D) (t10 : D) (t23 : D) (t24 : D) (ds : List D) (h_1 : Hp) : Option Out :=
    (dBin tab .lss ty3 (nth 5 ds) t24).bind fun t26 =>
    dIf t26
      ((dIndexAddr tab ty82 t23 (nth 5 ds)).bind fun t27 =>
    (dLoad tab h_1 ty3 t27).bind fun t28 =>
    (some (t28 : D)).bind fun t12 =>
    (some (t9 : D)).bind fun t29 =>
    (R fn24 [t29, .int .i64 4] h_1).bind fun p30 =>
    (dBin tab .add ty3 (.int .i64 5) p30.1).bind fun t31 =>
    (some (t31 : D)).bind fun t13 =>
    (pLitF tab ty98 4 [0, 1, 2, 3] [.str [], .str [42], .str [100, 114, 111, 112], .str [110, 111, 110, 101]]).bind fun t32 =>
    (some (t9 : D)).bind fun t33 =>
    (R fn24 [t33, .int .i64 4] p30.2).bind fun p34 =>
    (dIndexAddr tab ty98 t32 p34.1).bind fun t35 =>
    (dLoad tab p34.2 ty9 t35).bind fun t36 =>
    (some (t36 : D)).bind fun t14 =>
    (dLoad tab p34.2 ty1009 t10).bind fun t37 =>
    (some (t12 : D)).bind fun t38 =>
    (some (t13 : D)).bind fun t39 =>
    (R fn1005 [t37, t38, t39] p34.2).bind fun p40 =>
    (dLoad tab p40.2 ty1009 t10).bind fun t41 =>
    (some (t12 : D)).bind fun t42 =>
    (some (t13 : D)).bind fun t43 =>
    (R fn1077 [t41, t42, t43] p40.2).bind fun p44 =>
    (dBin tab .neq ty3 p40.1 p44.1).bind fun t45 =>
    (some (t45 : D)).bind fun t46 =>
    (gd t46 false (dLoad tab p44.2 ty1009 t10)).bind fun t47 =>
    (gd t46 false (some (t12 : D))).bind fun t48 =>
    (gd t46 false (some (t2 : D))).bind fun t49 =>
    (gdW t46 false p44.2 (R fn1005 [t47, t48, t49] p44.2)).bind fun p50 =>
    (gd t46 false (dLoad tab p50.2 ty1009 t10)).bind fun t51 =>
    (gd t46 false (some (t12 : D))).bind fun t52 =>
    (gd t46 false (some (t2 : D))).bind fun t53 =>
    (gdW t46 false p50.2 (R fn1077 [t51, t52, t53] p50.2)).bind fun p54 =>
    (gd t46 false (dBin tab .neq ty3 p50.1 p54.1)).bind fun t55 =>
    (dPick t46 (.bool true) t55).bind fun t56 =>
    (some (t56 : D)).bind fun t57 =>
    (gd t57 false (dLoad tab p54.2 ty1009 t10)).bind fun t58 =>
    (gd t57 false (some (t12 : D))).bind fun t59 =>
    (gd t57 false (some (t14 : D))).bind fun t60 =>
    (gdW t57 false p54.2 (R fn1078 [t58, t59, t60] p54.2)).bind fun p61 =>
    (gd t57 false (dLoad tab p61.2 ty1009 t10)).bind fun t62 =>
    (gd t57 false (some (t12 : D))).bind fun t63 =>
    (gd t57 false (some (t14 : D))).bind fun t64 =>
    (gdW t57 false p61.2 (R fn1079 [t62, t63, t64] p61.2)).bind fun p65 =>
    (gd t57 false (dBin tab .neq ty3 p61.1 p65.1)).bind fun t66 =>
    (dPick t57 (.bool true) t66).bind fun t67 =>
    (some (t67 : D)).bind fun t68 =>
    (gd t68 false (dLoad tab p65.2 ty1009 t10)).bind fun t69 =>
    (gd t68 false (some (t12 : D))).bind fun t70 =>
    (gd t68 false (some (t3 : D))).bind fun t71 =>
    (gdW t68 false p65.2 (R fn1081 [t69, t70, t71] p65.2)).bind fun p72 =>
    (gd t68 false (dLoad tab p72.2 ty1009 t10)).bind fun t73 =>
    (gd t68 false (some (t12 : D))).bind fun t74 =>
    (gd t68 false (some (t3 : D))).bind fun t75 =>
    (gdW t68 false p72.2 (R fn1082 [t73, t74, t75] p72.2)).bind fun p76 =>
    (gdW t68 false p76.2 (R fn1080 [p72.1, p76.1] p76.2)).bind fun p77 =>
    (gd t68 false (dUn .not p77.1)).bind fun t78 =>
    (dPick t68 (.bool true) t78).bind fun t79 =>
    chk (dLoad tab p34.2 ty1009 t10 = some t41)
    (chk (gd t46 false (dLoad tab p44.2 ty1009 t10) = some t51)
    (chk (gd t57 false (dLoad tab p54.2 ty1009 t10) = some t62)
    (chk (gd t68 false (dLoad tab p65.2 ty1009 t10) = some t73)
    (dIf t79
      ((some (.bool false : D)).bind fun t8_2 =>
      some (.ret, [t8_2, t12, t13, t14, (nth 4 ds), (nth 5 ds), t26, t79, (nth 8 ds)], p77.2))
      ((some (t9 : D)).bind fun t80 =>
    (R fn24 [t80, .int .i64 9] p77.2).bind fun p81 =>
    (dBin tab .sub ty3 p81.1 (.int .i64 2)).bind fun t82 =>
    (some (t82 : D)).bind fun t15 =>
    (dFieldAddr tab ty1009 1 t10).bind fun t83 =>
    (dLoad tab p81.2 ty58 t83).bind fun t84 =>
    (some (t12 : D)).bind fun t85 =>
    (some (t14 : D)).bind fun t86 =>
    (some (t15 : D)).bind fun t87 =>
    (R fn59 [t84, t85, t86, t87] p81.2).bind fun p88 =>
    (dFieldAddr tab ty1009 1 t10).bind fun t89 =>
    (dLoad tab p88.2 ty58 t89).bind fun t90 =>
    (some (t12 : D)).bind fun t91 =>
    (some (t14 : D)).bind fun t92 =>
    (some (t15 : D)).bind fun t93 =>
    (R fn60 [t90, t91, t92, t93] p88.2).bind fun p94 =>
    (R fn30 [p88.1, p94.1] p94.2).bind fun p95 =>
    (dUn .not p95.1).bind fun t96 =>
    chk (dLoad tab p81.2 ty58 t89 = some t90)
    (dIf t96
      ((some (.bool false : D)).bind fun t8_3 =>
      some (.ret, [t8_3, t12, t13, t14, t15, (nth 5 ds), t26, t79, t96], p95.2))
      ((dBin tab .add ty3 (nth 5 ds) (.int .i64 1)).bind fun t97 =>
    (some (t97 : D)).bind fun t25_1 =>
    some (.nrm, [(nth 0 ds), t12, t13, t14, t15, t25_1, t26, t79, t96], p95.2)))))))))
      (some ((.ext 0), [(nth 0 ds), (nth 1 ds), (nth 2 ds), (nth 3 ds), (nth 4 ds), (nth 5 ds), t26, (nth 7 ds), (nth 8 ds)], h_1))
noncomputable def F1075 (t0 : D) (t1 : D) (t2 : D) (t3 : D) (h : Hp) : Option (D × Hp) :=
  (some (.bool false : D)).bind fun t8 =>
  (R fn1001 [] h).bind fun p16 =>
  (dUn .not p16.1).bind fun t17 =>
  dIf t17
    ((some (.bool false : D)).bind fun t8_1 =>
    ((some (t8_1 : D)).bind fun d => (some ([] : List D)).bind fun ds => some (d :: ds)).bind fun ds => some (mkRes ds, p16.2))
    ((some (t0 : D)).bind fun t18 =>
  (R fn44 [t18, .int .i64 100] p16.2).bind fun p19 =>
  (some (p19.1 : D)).bind fun t9 =>
  (some (t9 : D)).bind fun t20 =>
  (R fn1076 [t20] p19.2).bind fun p21 =>
  (boxN 2 p21.1).bind fun t10 =>
  (some (t1 : D)).bind fun t22 =>
  (pLitF tab ty82 3 [0, 1, 2] [t22, .int .i64 1, .int .i64 2]).bind fun t23 =>
  (dLenT tab ty82 t23).bind fun t24 =>
  (some (.int .i64 0 : D)).bind fun t25 =>
  ((loopW (F1075_L0 t2 t3 t9 t10 t23 t24) [t8, .any, .any, .any, .any, t25, .any, .any, .any] p21.2).bind fun r =>
    some ((unblk 0 r.1), [(nth 0 r.2.1), (nth 1 r.2.1), (nth 2 r.2.1), (nth 3 r.2.1), (nth 4 r.2.1), (nth 5 r.2.1), (nth 6 r.2.1), (nth 7 r.2.1), (nth 8 r.2.1)], r.2.2)).bind fun r_1 =>
  toEnd r_1.1 ((some (.bool true : D)).bind fun t8_4 =>
  ((some (t8_4 : D)).bind fun d => (some ([] : List D)).bind fun ds => some (d :: ds)).bind fun ds => some (mkRes ds, r_1.2.2)) fun x => exEnd x (((some ((nth 0 r_1.2.1) : D)).bind fun d => (some ([] : List D)).bind fun ds => some (d :: ds)).bind fun ds => some (mkRes ds, r_1.2.2)))
theorem e1075 (t0 : D) (t1 : D) (t2 : D) (t3 : D) (h : Hp) : R fn1075 [t0, t1, t2, t3] h = F1075 t0 t1 t2 t3 h :=
  (run_fn (X := X) (F := Fs) (fi := i3) (by kernel_rfl) _ _).trans (by kernel_rfl)
noncomputable def F1001 (h : Hp) : Option (D × Hp) :=
  (some (.bool false : D)).bind fun t0 =>
  (dBuild tab ty1006 [0, 1, 2] [.int .i64 1, .int .i64 2, .int .i64 3]).bind fun t1 =>
  (pLitF tab ty1007 1 [0] [t1]).bind fun t2 =>
  (dBuild tab ty1009 [0] [t2]).bind fun t3 =>
  (R fn1005 [t3, .int .i64 1, .int .i64 2] h).bind fun p4 =>
  (dBin tab .eql ty3 p4.1 (.int .i64 3)).bind fun t5 =>
  (some (t5 : D)).bind fun t0_1 =>
  ((some (t0_1 : D)).bind fun d => (some ([] : List D)).bind fun ds => some (d :: ds)).bind fun ds => some (mkRes ds, p4.2)
theorem e1001 (h : Hp) : R fn1001 [] h = F1001 h :=
  (run_fn (X := X) (F := Fs) (fi := i4) (by kernel_rfl) _ _).trans (by kernel_rfl)
noncomputable def F44 (t0 : D) (t1 : D) (h : Hp) : Option (D × Hp) :=
  (some (.nilp : D)).bind fun t4 =>
  (some (t0 : D)).bind fun t5 =>
  (some (t0 : D)).bind fun t6 =>
  (dLenT tab ty22 t6).bind fun t7 =>
  (some (t1 : D)).bind fun t8 =>
  (dMin t7 t8).bind fun t9 =>
  (dSliceAt tab ty22 false true false [t5, t9]).bind fun t10 =>
  (dBuild tab ty101 [0] [t10]).bind fun t11 =>
  (wBox ty101 2 h t11).bind fun p12 =>
  (some (p12.1 : D)).bind fun t4_1 =>
  ((some (t4_1 : D)).bind fun d => (some ([] : List D)).bind fun ds => some (d :: ds)).bind fun ds => some (mkRes ds, p12.2)
theorem e44 (t0 : D) (t1 : D) (h : Hp) : R fn44 [t0, t1] h = F44 t0 t1 h :=
  (run_fn (X := X) (F := Fs) (fi := i5) (by kernel_rfl) _ _).trans (by kernel_rfl)
/-- a loop: slots 5 14 19 -/
noncomputable def F1076_L1 (t0 : D) (p3 : D × Hp) (ds : List D) (ds_1 : List D) (h_2 : Hp) : Option Out :=
    (some ((nth 0 ds_1) : D)).bind fun t10 =>
    (some (t0 : D)).bind fun t11 =>
    (R fn24 [t11, .int .i64 3] h_2).bind fun p12 =>
    (dBin tab .add ty3 (.int .i64 5) p12.1).bind fun t13 =>
    (dBin tab .leq ty3 t10 t13).bind fun t14 =>
    dIf t14
      ((some (t0 : D)).bind fun t17 =>
    (R fn24 [t17, .int .i64 2] p12.2).bind fun p18 =>
    (dBin tab .eql ty3 p18.1 (.int .i64 1)).bind fun t19 =>
    (dIf t19
      ((dFieldAddr tab ty1009 0 p3.1).bind fun t20 =>
      (dLoad tab p18.2 ty1007 t20).bind fun t21 =>
      (some ((nth 0 ds) : D)).bind fun t22 =>
      (some ((nth 0 ds_1) : D)).bind fun t23 =>
      (some (t0 : D)).bind fun t24 =>
      (R fn24 [t24, .int .i64 60] p18.2).bind fun p25 =>
      (dBuild tab ty1006 [0, 1, 2] [t22, t23, p25.1]).bind fun t26 =>
      (pLitF tab ty1007 1 [0] [t26]).bind fun t27 =>
      (dAppend tab p25.2 ty1007 ty1007 t21 t27).bind fun p28 =>
      chk (dLoad tab p25.2 ty1007 t20 = some t21)
      ((dFieldAddr tab ty1009 0 p3.1).bind fun t29 =>
      ((dStore tab p28.2 ty1007 t29 p28.1).bind fun h' => some ((.und : D), h')).bind fun p910 =>
      some (.nrm, ([] : List D), p910.2)))
      (some (.nrm, ([] : List D), p18.2))).bind fun r_2 =>
    toEnd (unblk 3 r_2.1) ((some ((nth 0 ds_1) : D)).bind fun t15 =>
    (dBin tab .add ty3 t15 (.int .i64 1)).bind fun t16 =>
    (some (t16 : D)).bind fun t5_1 =>
    some (.nrm, [t5_1, t14, t19], r_2.2.2)) fun x => some (x, [(nth 0 ds_1), t14, t19], r_2.2.2))
      (some ((.ext 2), [(nth 0 ds_1), t14, (nth 2 ds_1)], p12.2))
/-- a loop: slots 4 5 7 14 19 -/
noncomputable def F1076_L0 (t0 : D) (p3 : D × Hp) (ds : List D) (h_1 : Hp) : Option Out :=
    (some ((nth 0 ds) : D)).bind fun t6 =>
    (dBin tab .leq ty3 t6 (.int .i64 2)).bind fun t7 =>
    dIf t7
      ((some (.int .i64 5 : D)).bind fun t5 =>
    ((loopW (F1076_L1 t0 p3 ds) [t5, (nth 3 ds), (nth 4 ds)] h_1).bind fun r_1 =>
      some ((unblk 2 r_1.1), [(nth 0 r_1.2.1), (nth 1 r_1.2.1), (nth 2 r_1.2.1)], r_1.2.2)).bind fun r_3 =>
    toEnd (unblk 1 r_3.1) ((some ((nth 0 ds) : D)).bind fun t8 =>
    (dBin tab .add ty3 t8 (.int .i64 1)).bind fun t9 =>
    (some (t9 : D)).bind fun t4_1 =>
    some (.nrm, [t4_1, (nth 0 r_3.2.1), t7, (nth 1 r_3.2.1), (nth 2 r_3.2.1)], r_3.2.2)) fun x_1 => some (x_1, [(nth 0 ds), (nth 0 r_3.2.1), t7, (nth 1 r_3.2.1), (nth 2 r_3.2.1)], r_3.2.2))
      (some ((.ext 0), [(nth 0 ds), (nth 1 ds), t7, (nth 3 ds), (nth 4 ds)], h_1))
noncomputable def F1076 (t0 : D) (h : Hp) : Option (D × Hp) :=
  (some ((.ptr h.length 0 0 : D), dNew h ty1009 2 [[.nils, .nils]])).bind fun p2 =>
  (some ((.ptr p2.2.length 0 0 : D), dNew p2.2 ty1009 2 [[.nils, .nils]])).bind fun p3 =>
  (some (.int .i64 1 : D)).bind fun t4 =>
  ((loopW (F1076_L0 t0 p3) [t4, .any, .any, .any, .any] p3.2).bind fun r =>
    some ((unblk 0 r.1), [(nth 0 r.2.1), (nth 1 r.2.1), (nth 2 r.2.1), (nth 3 r.2.1), (nth 4 r.2.1)], r.2.2)).bind fun r_4 =>
  toEnd r_4.1 ((some (t0 : D)).bind fun t30 =>
  (R fn1083 [t30] r_4.2.2).bind fun p31 =>
  (dFieldAddr tab ty1009 1 p3.1).bind fun t32 =>
  ((dStore tab p31.2 ty58 t32 p31.1).bind fun h' => some ((.und : D), h')).bind fun p903 =>
  (dLoad tab p903.2 ty1009 p3.1).bind fun t33 =>
  ((dStore tab p903.2 ty1009 p2.1 t33).bind fun h' => some ((.und : D), h')).bind fun p901 =>
  ((some (p2.1 : D)).bind fun p => (dLoad tab p901.2 ty1009 p).bind fun d => (some ([] : List D)).bind fun ds => some (d :: ds)).bind fun ds => scope h p901.2 (mkRes ds)) fun x_2 => exEnd x_2 (((some (p2.1 : D)).bind fun p => (dLoad tab r_4.2.2 ty1009 p).bind fun d => (some ([] : List D)).bind fun ds => some (d :: ds)).bind fun ds => scope h r_4.2.2 (mkRes ds))
theorem e1076 (t0 : D) (h : Hp) : R fn1076 [t0] h = F1076 t0 h :=
  (run_fn (X := X) (F := Fs) (fi := i6) (by kernel_rfl) _ _).trans (by kernel_rfl)
noncomputable def F24 (t0 : D) (t1 : D) (h : Hp) : Option (D × Hp) :=
  (some (.int .i64 0 : D)).bind fun t4 =>
  (some (t0 : D)).bind fun t6 =>
  (R fn57 [t6] h).bind fun p7 =>
  (dUn .not p7.1).bind fun t8 =>
  (some (t8 : D)).bind fun t9 =>
  (gd t9 false (some (t1 : D))).bind fun t10 =>
  (gd t9 false (dBin tab .lss ty3 t10 (.int .i64 1))).bind fun t11 =>
  (dPick t9 (.bool true) t11).bind fun t12 =>
  dIf t12
    ((some (.int .i64 0 : D)).bind fun t4_1 =>
    ((some (t4_1 : D)).bind fun d => (some ([] : List D)).bind fun ds => some (d :: ds)).bind fun ds => some (mkRes ds, p7.2))
    ((some (t0 : D)).bind fun t13 =>
  (dNilCheck t13).bind fun t14 =>
  (dFieldAddr tab ty101 0 t14).bind fun t15 =>
  (dLoad tab p7.2 ty22 t15).bind fun t16 =>
  (some (t0 : D)).bind fun t17 =>
  (dNilCheck t17).bind fun t18 =>
  (dFieldAddr tab ty101 1 t18).bind fun t19 =>
  (dLoad tab p7.2 ty3 t19).bind fun t20 =>
  (dIndexAddr tab ty22 t16 t20).bind fun t21 =>
  (dLoad tab p7.2 ty5 t21).bind fun t22 =>
  (dConv tab ty5 ty3 t22).bind fun t23 =>
  (some (t23 : D)).bind fun t5 =>
  (some (t0 : D)).bind fun t24 =>
  (dNilCheck t24).bind fun t25 =>
  (dFieldAddr tab ty101 1 t25).bind fun t26 =>
  (dLoad tab p7.2 ty3 t26).bind fun t27 =>
  (dBin tab .add ty3 t27 (.int .i64 1)).bind fun t28 =>
  (dNilCheck t24).bind fun t29 =>
  (dFieldAddr tab ty101 1 t29).bind fun t30 =>
  ((dStore tab p7.2 ty3 t30 t28).bind fun h' => some ((.und : D), h')).bind fun p907 =>
  (some (t5 : D)).bind fun t31 =>
  (some (t1 : D)).bind fun t32 =>
  (dBin tab .mul ty3 t31 t32).bind fun t33 =>
  (dBin tab .quo ty3 t33 (.int .i64 256)).bind fun t34 =>
  (some (t34 : D)).bind fun t4_2 =>
  ((some (t4_2 : D)).bind fun d => (some ([] : List D)).bind fun ds => some (d :: ds)).bind fun ds => some (mkRes ds, p907.2))
theorem e24 (t0 : D) (t1 : D) (h : Hp) : R fn24 [t0, t1] h = F24 t0 t1 h :=
  (run_fn (X := X) (F := Fs) (fi := i7) (by kernel_rfl) _ _).trans (by kernel_rfl)
noncomputable def F1005 (t0 : D) (t1 : D) (t2 : D) (h : Hp) : Option (D × Hp) :=
  (pBoxF t0).bind fun t3 =>
  (some (.int .i64 0 : D)).bind fun t6 =>
  (dFieldAddr tab ty1009 0 t3).bind fun t10 =>
  (dLoad tab h ty1007 t10).bind fun t11 =>
  (some (t1 : D)).bind fun t12 =>
  (some (t2 : D)).bind fun t13 =>
  (R fn1013 [t11, t12, t13] h).bind fun p14 =>
  (some (p14.1 : D)).bind fun t9 =>
  (dExtract 0 t9).bind fun t15 =>
  (dExtract 1 t9).bind fun t16 =>
  (some (t15 : D)).bind fun t7 =>
  (some (t16 : D)).bind fun t8 =>
  (some (t8 : D)).bind fun t17 =>
  dIf t17
    ((dFieldAddr tab ty1009 0 t3).bind fun t18 =>
    (dLoad tab p14.2 ty1007 t18).bind fun t19 =>
    (some (t7 : D)).bind fun t20 =>
    (dIndexAddr tab ty1007 t19 t20).bind fun t21 =>
    (dFieldAddr tab ty1006 2 t21).bind fun t22 =>
    (dLoad tab p14.2 ty3 t22).bind fun t23 =>
    (some (t23 : D)).bind fun t6_1 =>
    ((some (t6_1 : D)).bind fun d => (some ([] : List D)).bind fun ds => some (d :: ds)).bind fun ds => some (mkRes ds, p14.2))
    ((some (.int .i64 0 : D)).bind fun t6_2 =>
  ((some (t6_2 : D)).bind fun d => (some ([] : List D)).bind fun ds => some (d :: ds)).bind fun ds => some (mkRes ds, p14.2))
theorem e1005 (t0 : D) (t1 : D) (t2 : D) (h : Hp) : R fn1005 [t0, t1, t2] h = F1005 t0 t1 t2 h :=
  (run_fn (X := X) (F := Fs) (fi := i8) (by kernel_rfl) _ _).trans (by kernel_rfl)
noncomputable def F1077 (t0 : D) (t1 : D) (t2 : D) (h : Hp) : Option (D × Hp) :=
  (pBoxF t0).bind fun t3 =>
  (some (.int .i64 0 : D)).bind fun t6 =>
  (dFieldAddr tab ty1009 0 t3).bind fun t10 =>
  (dLoad tab h ty1007 t10).bind fun t11 =>
  (some (t1 : D)).bind fun t12 =>
  (some (t2 : D)).bind fun t13 =>
  (R fn1084 [t11, t12, t13] h).bind fun p14 =>
  (some (p14.1 : D)).bind fun t9 =>
  (dExtract 0 t9).bind fun t15 =>
  (dExtract 1 t9).bind fun t16 =>
  (some (t15 : D)).bind fun t7 =>
  (some (t16 : D)).bind fun t8 =>
  (some (t8 : D)).bind fun t17 =>
  dIf t17
    ((dFieldAddr tab ty1009 0 t3).bind fun t18 =>
    (dLoad tab p14.2 ty1007 t18).bind fun t19 =>
    (some (t7 : D)).bind fun t20 =>
    (dIndexAddr tab ty1007 t19 t20).bind fun t21 =>
    (dFieldAddr tab ty1006 2 t21).bind fun t22 =>
    (dLoad tab p14.2 ty3 t22).bind fun t23 =>
    (some (t23 : D)).bind fun t6_1 =>
    ((some (t6_1 : D)).bind fun d => (some ([] : List D)).bind fun ds => some (d :: ds)).bind fun ds => some (mkRes ds, p14.2))
    ((some (.int .i64 0 : D)).bind fun t6_2 =>
  ((some (t6_2 : D)).bind fun d => (some ([] : List D)).bind fun ds => some (d :: ds)).bind fun ds => some (mkRes ds, p14.2))
theorem e1077 (t0 : D) (t1 : D) (t2 : D) (h : Hp) : R fn1077 [t0, t1, t2] h = F1077 t0 t1 t2 h :=
  (run_fn (X := X) (F := Fs) (fi := i9) (by kernel_rfl) _ _).trans (by kernel_rfl)
noncomputable def F1078 (t0 : D) (t1 : D) (t2 : D) (h : Hp) : Option (D × Hp) :=
  (pBoxF t0).bind fun t3 =>
  (some (.int .i64 0 : D)).bind fun t6 =>
  (dFieldAddr tab ty1009 1 t3).bind fun t10 =>
  (dLoad tab h ty58 t10).bind fun t11 =>
  (some (t1 : D)).bind fun t12 =>
  (some (t2 : D)).bind fun t13 =>
  (R fn80 [t11, t12, t13] h).bind fun p14 =>
  (some (p14.1 : D)).bind fun t9 =>
  (dExtract 0 t9).bind fun t15 =>
  (dExtract 1 t9).bind fun t16 =>
  (some (t15 : D)).bind fun t7 =>
  (some (t16 : D)).bind fun t8 =>
  (some (t8 : D)).bind fun t17 =>
  dIf t17
    ((dFieldAddr tab ty1009 1 t3).bind fun t18 =>
    (dLoad tab p14.2 ty58 t18).bind fun t19 =>
    (some (t7 : D)).bind fun t20 =>
    (dIndexAddr tab ty58 t19 t20).bind fun t21 =>
    (dFieldAddr tab ty106 2 t21).bind fun t22 =>
    (dLoad tab p14.2 ty3 t22).bind fun t23 =>
    (some (t23 : D)).bind fun t6_1 =>
    ((some (t6_1 : D)).bind fun d => (some ([] : List D)).bind fun ds => some (d :: ds)).bind fun ds => some (mkRes ds, p14.2))
    ((some (.int .i64 0 : D)).bind fun t6_2 =>
  ((some (t6_2 : D)).bind fun d => (some ([] : List D)).bind fun ds => some (d :: ds)).bind fun ds => some (mkRes ds, p14.2))
theorem e1078 (t0 : D) (t1 : D) (t2 : D) (h : Hp) : R fn1078 [t0, t1, t2] h = F1078 t0 t1 t2 h :=
  (run_fn (X := X) (F := Fs) (fi := i10) (by kernel_rfl) _ _).trans (by kernel_rfl)
/-- a loop: slots 6 7 12 32 -/
noncomputable def F1079_L0 (t1 : D) (t2 : D) (t3 : D) (ds : List D) (h_1 : Hp) : Option Out :=
    (some ((nth 1 ds) : D)).bind fun t8 =>
    (dFieldAddr tab ty1009 1 t3).bind fun t9 =>
    (dLoad tab h_1 ty58 t9).bind fun t10 =>
    (dLenT tab ty58 t10).bind fun t11 =>
    (dBin tab .lss ty3 t8 t11).bind fun t12 =>
    dIf t12
      ((dFieldAddr tab ty1009 1 t3).bind fun t15 =>
    (dLoad tab h_1 ty58 t15).bind fun t16 =>
    (some ((nth 1 ds) : D)).bind fun t17 =>
    (dIndexAddr tab ty58 t16 t17).bind fun t18 =>
    (dFieldAddr tab ty106 0 t18).bind fun t19 =>
    (dLoad tab h_1 ty3 t19).bind fun t20 =>
    (some (t1 : D)).bind fun t21 =>
    (dBin tab .eql ty3 t20 t21).bind fun t22 =>
    (some (t22 : D)).bind fun t23 =>
    (gd t23 true (dFieldAddr tab ty1009 1 t3)).bind fun t24 =>
    (gd t23 true (dLoad tab h_1 ty58 t24)).bind fun t25 =>
    (gd t23 true (some ((nth 1 ds) : D))).bind fun t26 =>
    (gd t23 true (dIndexAddr tab ty58 t25 t26)).bind fun t27 =>
    (gd t23 true (dFieldAddr tab ty106 1 t27)).bind fun t28 =>
    (gd t23 true (dLoad tab h_1 ty9 t28)).bind fun t29 =>
    (gd t23 true (some (t2 : D))).bind fun t30 =>
    (gd t23 true (dBin tab .eql ty9 t29 t30)).bind fun t31 =>
    (dPick t23 t31 (.bool false)).bind fun t32 =>
    dIf t32
      ((dFieldAddr tab ty1009 1 t3).bind fun t33 =>
      (dLoad tab h_1 ty58 t33).bind fun t34 =>
      (some ((nth 1 ds) : D)).bind fun t35 =>
      (dIndexAddr tab ty58 t34 t35).bind fun t36 =>
      (dFieldAddr tab ty106 2 t36).bind fun t37 =>
      (dLoad tab h_1 ty3 t37).bind fun t38 =>
      (some (t38 : D)).bind fun t6_1 =>
      some (.ret, [t6_1, (nth 1 ds), t12, t32], h_1))
      ((some ((nth 1 ds) : D)).bind fun t13 =>
    (dBin tab .add ty3 t13 (.int .i64 1)).bind fun t14 =>
    (some (t14 : D)).bind fun t7_1 =>
    some (.nrm, [(nth 0 ds), t7_1, t12, t32], h_1)))
      (some ((.ext 0), [(nth 0 ds), (nth 1 ds), t12, (nth 3 ds)], h_1))
noncomputable def F1079 (t0 : D) (t1 : D) (t2 : D) (h : Hp) : Option (D × Hp) :=
  (pBoxF t0).bind fun t3 =>
  (some (.int .i64 0 : D)).bind fun t6 =>
  (some (.int .i64 0 : D)).bind fun t7 =>
  ((loopW (F1079_L0 t1 t2 t3) [t6, t7, .any, .any] h).bind fun r =>
    some ((unblk 0 r.1), [(nth 0 r.2.1), (nth 1 r.2.1), (nth 2 r.2.1), (nth 3 r.2.1)], r.2.2)).bind fun r_1 =>
  toEnd r_1.1 ((some (.int .i64 0 : D)).bind fun t6_2 =>
  ((some (t6_2 : D)).bind fun d => (some ([] : List D)).bind fun ds => some (d :: ds)).bind fun ds => some (mkRes ds, r_1.2.2)) fun x => exEnd x (((some ((nth 0 r_1.2.1) : D)).bind fun d => (some ([] : List D)).bind fun ds => some (d :: ds)).bind fun ds => some (mkRes ds, r_1.2.2))
theorem e1079 (t0 : D) (t1 : D) (t2 : D) (h : Hp) : R fn1079 [t0, t1, t2] h = F1079 t0 t1 t2 h :=
  (run_fn (X := X) (F := Fs) (fi := i11) (by kernel_rfl) _ _).trans (by kernel_rfl)
/-- a loop: slots 4 5 31 44 -/
noncomputable def F1080_L0 (t2 : D) (t3 : D) (ds : List D) (h_1 : Hp) : Option Out :=
    (some ((nth 1 ds) : D)).bind fun t27 =>
    (dFieldAddr tab ty1053 2 t2).bind fun t28 =>
    (dLoad tab h_1 ty1051 t28).bind fun t29 =>
    (dLenT tab ty1051 t29).bind fun t30 =>
    (dBin tab .lss ty3 t27 t30).bind fun t31 =>
    dIf t31
      ((dFieldAddr tab ty1053 2 t2).bind fun t34 =>
    (dLoad tab h_1 ty1051 t34).bind fun t35 =>
    (some ((nth 1 ds) : D)).bind fun t36 =>
    (dIndexAddr tab ty1051 t35 t36).bind fun t37 =>
    (dLoad tab h_1 ty1058 t37).bind fun t38 =>
    (dFieldAddr tab ty1053 2 t3).bind fun t39 =>
    (dLoad tab h_1 ty1051 t39).bind fun t40 =>
    (some ((nth 1 ds) : D)).bind fun t41 =>
    (dIndexAddr tab ty1051 t40 t41).bind fun t42 =>
    (dLoad tab h_1 ty1058 t42).bind fun t43 =>
    (dBin tab .neq ty1058 t38 t43).bind fun t44 =>
    dIf t44
      ((some (.bool false : D)).bind fun t4_2 =>
      some (.ret, [t4_2, (nth 1 ds), t31, t44], h_1))
      ((some ((nth 1 ds) : D)).bind fun t32 =>
    (dBin tab .add ty3 t32 (.int .i64 1)).bind fun t33 =>
    (some (t33 : D)).bind fun t5_1 =>
    some (.nrm, [(nth 0 ds), t5_1, t31, t44], h_1)))
      (some ((.ext 0), [(nth 0 ds), (nth 1 ds), t31, (nth 3 ds)], h_1))
noncomputable def F1080 (t0 : D) (t1 : D) (h : Hp) : Option (D × Hp) :=
  (pBoxF t0).bind fun t2 =>
  (pBoxF t1).bind fun t3 =>
  (some (.bool false : D)).bind fun t4 =>
  (dFieldAddr tab ty1053 0 t2).bind fun t6 =>
  (dLoad tab h ty3 t6).bind fun t7 =>
  (dFieldAddr tab ty1053 0 t3).bind fun t8 =>
  (dLoad tab h ty3 t8).bind fun t9 =>
  (dBin tab .neq ty3 t7 t9).bind fun t10 =>
  (some (t10 : D)).bind fun t11 =>
  (gd t11 false (dFieldAddr tab ty1053 1 t2)).bind fun t12 =>
  (gd t11 false (dLoad tab h ty3 t12)).bind fun t13 =>
  (gd t11 false (dFieldAddr tab ty1053 1 t3)).bind fun t14 =>
  (gd t11 false (dLoad tab h ty3 t14)).bind fun t15 =>
  (gd t11 false (dBin tab .neq ty3 t13 t15)).bind fun t16 =>
  (dPick t11 (.bool true) t16).bind fun t17 =>
  (some (t17 : D)).bind fun t18 =>
  (gd t18 false (dFieldAddr tab ty1053 2 t2)).bind fun t19 =>
  (gd t18 false (dLoad tab h ty1051 t19)).bind fun t20 =>
  (gd t18 false (dLenT tab ty1051 t20)).bind fun t21 =>
  (gd t18 false (dFieldAddr tab ty1053 2 t3)).bind fun t22 =>
  (gd t18 false (dLoad tab h ty1051 t22)).bind fun t23 =>
  (gd t18 false (dLenT tab ty1051 t23)).bind fun t24 =>
  (gd t18 false (dBin tab .neq ty3 t21 t24)).bind fun t25 =>
  (dPick t18 (.bool true) t25).bind fun t26 =>
  dIf t26
    ((some (.bool false : D)).bind fun t4_1 =>
    ((some (t4_1 : D)).bind fun d => (some ([] : List D)).bind fun ds => some (d :: ds)).bind fun ds => some (mkRes ds, h))
    ((some (.int .i64 0 : D)).bind fun t5 =>
  ((loopW (F1080_L0 t2 t3) [t4, t5, .any, .any] h).bind fun r =>
    some ((unblk 0 r.1), [(nth 0 r.2.1), (nth 1 r.2.1), (nth 2 r.2.1), (nth 3 r.2.1)], r.2.2)).bind fun r_1 =>
  toEnd r_1.1 ((some (.bool true : D)).bind fun t4_3 =>
  ((some (t4_3 : D)).bind fun d => (some ([] : List D)).bind fun ds => some (d :: ds)).bind fun ds => some (mkRes ds, r_1.2.2)) fun x => exEnd x (((some ((nth 0 r_1.2.1) : D)).bind fun d => (some ([] : List D)).bind fun ds => some (d :: ds)).bind fun ds => some (mkRes ds, r_1.2.2)))
theorem e1080 (t0 : D) (t1 : D) (h : Hp) : R fn1080 [t0, t1] h = F1080 t0 t1 h :=
  (run_fn (X := X) (F := Fs) (fi := i12) (by kernel_rfl) _ _).trans (by kernel_rfl)
/-- a loop: slots 9 16 17 23 -/
noncomputable def F1081_L0 (t1 : D) (p7 : D × Hp) (t14 : D) (t15 : D) (ds : List D) (h_1 : Hp) : Option Out :=
    (dBin tab .lss ty3 (nth 1 ds) t15).bind fun t17 =>
    dIf t17
      ((dIndexAddr tab ty1007 t14 (nth 1 ds)).bind fun t18 =>
    (dLoad tab h_1 ty1006 t18).bind fun t19 =>
    (boxN 3 t19).bind fun t9 =>
    (dFieldAddr tab ty1006 0 t9).bind fun t20 =>
    (dLoad tab h_1 ty3 t20).bind fun t21 =>
    (some (t1 : D)).bind fun t22 =>
    (dBin tab .eql ty3 t21 t22).bind fun t23 =>
    (dIf t23
      ((dFieldAddr tab ty1053 2 p7.1).bind fun t24 =>
      (dLoad tab h_1 ty1051 t24).bind fun t25 =>
      (dFieldAddr tab ty1006 1 t9).bind fun t26 =>
      (dLoad tab h_1 ty3 t26).bind fun t27 =>
      (dFieldAddr tab ty1006 2 t9).bind fun t28 =>
      (dLoad tab h_1 ty3 t28).bind fun t29 =>
      (dBuild tab ty1058 [0, 1] [t27, t29]).bind fun t30 =>
      (pLitF tab ty1051 1 [0] [t30]).bind fun t31 =>
      (dAppend tab h_1 ty1051 ty1051 t25 t31).bind fun p32 =>
      (dFieldAddr tab ty1053 2 p7.1).bind fun t33 =>
      ((dStore tab p32.2 ty1051 t33 p32.1).bind fun h' => some ((.und : D), h')).bind fun p910 =>
      some (.nrm, ([] : List D), p910.2))
      (some (.nrm, ([] : List D), h_1))).bind fun r_1 =>
    toEnd (unblk 1 r_1.1) ((dBin tab .add ty3 (nth 1 ds) (.int .i64 1)).bind fun t34 =>
    (some (t34 : D)).bind fun t16_1 =>
    some (.nrm, [t9, t16_1, t17, t23], r_1.2.2)) fun x => some (x, [t9, (nth 1 ds), t17, t23], r_1.2.2))
      (some ((.ext 0), [(nth 0 ds), (nth 1 ds), t17, (nth 3 ds)], h_1))
noncomputable def F1081 (t0 : D) (t1 : D) (t2 : D) (h : Hp) : Option (D × Hp) :=
  (pBoxF t0).bind fun t3 =>
  (some ((.ptr h.length 0 0 : D), dNew h ty1053 3 [[.int .i64 0, .int .i64 0, .nils]])).bind fun p6 =>
  (some (t1 : D)).bind fun t10 =>
  (some (t2 : D)).bind fun t11 =>
  (dBuild tab ty1053 [0, 1] [t10, t11]).bind fun t12 =>
  (some ((.ptr p6.2.length 0 0 : D), dNew p6.2 ty1053 3 [[.int .i64 0, .int .i64 0, .nils]])).bind fun p7 =>
  ((dStore tab p7.2 ty1053 p7.1 t12).bind fun h' => some ((.und : D), h')).bind fun p904 =>
  (dFieldAddr tab ty1009 0 t3).bind fun t13 =>
  (dLoad tab p904.2 ty1007 t13).bind fun t14 =>
  (dLenT tab ty1007 t14).bind fun t15 =>
  (some (.int .i64 0 : D)).bind fun t16 =>
  ((loopW (F1081_L0 t1 p7 t14 t15) [.any, t16, .any, .any] p904.2).bind fun r =>
    some ((unblk 0 r.1), [(nth 0 r.2.1), (nth 1 r.2.1), (nth 2 r.2.1), (nth 3 r.2.1)], r.2.2)).bind fun r_2 =>
  toEnd r_2.1 ((dLoad tab r_2.2.2 ty1053 p7.1).bind fun t35 =>
  ((dStore tab r_2.2.2 ty1053 p6.1 t35).bind fun h' => some ((.und : D), h')).bind fun p901 =>
  ((some (p6.1 : D)).bind fun p => (dLoad tab p901.2 ty1053 p).bind fun d => (some ([] : List D)).bind fun ds => some (d :: ds)).bind fun ds => scope h p901.2 (mkRes ds)) fun x_1 => exEnd x_1 (((some (p6.1 : D)).bind fun p => (dLoad tab r_2.2.2 ty1053 p).bind fun d => (some ([] : List D)).bind fun ds => some (d :: ds)).bind fun ds => scope h r_2.2.2 (mkRes ds))
theorem e1081 (t0 : D) (t1 : D) (t2 : D) (h : Hp) : R fn1081 [t0, t1, t2] h = F1081 t0 t1 t2 h :=
  (run_fn (X := X) (F := Fs) (fi := i13) (by kernel_rfl) _ _).trans (by kernel_rfl)
/-- a loop: slots 8 16 26 -/
noncomputable def F1082_L0 (t1 : D) (t3 : D) (p7 : D × Hp) (ds : List D) (h_1 : Hp) : Option Out :=
    (some ((nth 0 ds) : D)).bind fun t12 =>
    (dFieldAddr tab ty1009 0 t3).bind fun t13 =>
    (dLoad tab h_1 ty1007 t13).bind fun t14 =>
    (dLenT tab ty1007 t14).bind fun t15 =>
    (dBin tab .lss ty3 t12 t15).bind fun t16 =>
    dIf t16
      ((dFieldAddr tab ty1009 0 t3).bind fun t19 =>
    (dLoad tab h_1 ty1007 t19).bind fun t20 =>
    (some ((nth 0 ds) : D)).bind fun t21 =>
    (dIndexAddr tab ty1007 t20 t21).bind fun t22 =>
    (dFieldAddr tab ty1006 0 t22).bind fun t23 =>
    (dLoad tab h_1 ty3 t23).bind fun t24 =>
    (some (t1 : D)).bind fun t25 =>
    (dBin tab .eql ty3 t24 t25).bind fun t26 =>
    (dIf t26
      ((dFieldAddr tab ty1053 2 p7.1).bind fun t27 =>
      (dLoad tab h_1 ty1051 t27).bind fun t28 =>
      (dFieldAddr tab ty1009 0 t3).bind fun t29 =>
      (dLoad tab h_1 ty1007 t29).bind fun t30 =>
      (some ((nth 0 ds) : D)).bind fun t31 =>
      (dIndexAddr tab ty1007 t30 t31).bind fun t32 =>
      (dFieldAddr tab ty1006 1 t32).bind fun t33 =>
      (dLoad tab h_1 ty3 t33).bind fun t34 =>
      (dFieldAddr tab ty1009 0 t3).bind fun t35 =>
      (dLoad tab h_1 ty1007 t35).bind fun t36 =>
      (some ((nth 0 ds) : D)).bind fun t37 =>
      (dIndexAddr tab ty1007 t36 t37).bind fun t38 =>
      (dFieldAddr tab ty1006 2 t38).bind fun t39 =>
      (dLoad tab h_1 ty3 t39).bind fun t40 =>
      (dBuild tab ty1058 [0, 1] [t34, t40]).bind fun t41 =>
      (pLitF tab ty1051 1 [0] [t41]).bind fun t42 =>
      (dAppend tab h_1 ty1051 ty1051 t28 t42).bind fun p43 =>
      (dFieldAddr tab ty1053 2 p7.1).bind fun t44 =>
      ((dStore tab p43.2 ty1051 t44 p43.1).bind fun h' => some ((.und : D), h')).bind fun p918 =>
      some (.nrm, ([] : List D), p918.2))
      (some (.nrm, ([] : List D), h_1))).bind fun r_1 =>
    toEnd (unblk 1 r_1.1) ((some ((nth 0 ds) : D)).bind fun t17 =>
    (dBin tab .add ty3 t17 (.int .i64 1)).bind fun t18 =>
    (some (t18 : D)).bind fun t8_1 =>
    some (.nrm, [t8_1, t16, t26], r_1.2.2)) fun x => some (x, [(nth 0 ds), t16, t26], r_1.2.2))
      (some ((.ext 0), [(nth 0 ds), t16, (nth 2 ds)], h_1))
noncomputable def F1082 (t0 : D) (t1 : D) (t2 : D) (h : Hp) : Option (D × Hp) :=
  (pBoxF t0).bind fun t3 =>
  (some ((.ptr h.length 0 0 : D), dNew h ty1053 3 [[.int .i64 0, .int .i64 0, .nils]])).bind fun p6 =>
  (some (t1 : D)).bind fun t9 =>
  (some (t2 : D)).bind fun t10 =>
  (dBuild tab ty1053 [0, 1] [t9, t10]).bind fun t11 =>
  (some ((.ptr p6.2.length 0 0 : D), dNew p6.2 ty1053 3 [[.int .i64 0, .int .i64 0, .nils]])).bind fun p7 =>
  ((dStore tab p7.2 ty1053 p7.1 t11).bind fun h' => some ((.und : D), h')).bind fun p904 =>
  (some (.int .i64 0 : D)).bind fun t8 =>
  ((loopW (F1082_L0 t1 t3 p7) [t8, .any, .any] p904.2).bind fun r =>
    some ((unblk 0 r.1), [(nth 0 r.2.1), (nth 1 r.2.1), (nth 2 r.2.1)], r.2.2)).bind fun r_2 =>
  toEnd r_2.1 ((dLoad tab r_2.2.2 ty1053 p7.1).bind fun t45 =>
  ((dStore tab r_2.2.2 ty1053 p6.1 t45).bind fun h' => some ((.und : D), h')).bind fun p901 =>
  ((some (p6.1 : D)).bind fun p => (dLoad tab p901.2 ty1053 p).bind fun d => (some ([] : List D)).bind fun ds => some (d :: ds)).bind fun ds => scope h p901.2 (mkRes ds)) fun x_1 => exEnd x_1 (((some (p6.1 : D)).bind fun p => (dLoad tab r_2.2.2 ty1053 p).bind fun d => (some ([] : List D)).bind fun ds => some (d :: ds)).bind fun ds => scope h r_2.2.2 (mkRes ds))
theorem e1082 (t0 : D) (t1 : D) (t2 : D) (h : Hp) : R fn1082 [t0, t1, t2] h = F1082 t0 t1 t2 h :=
  (run_fn (X := X) (F := Fs) (fi := i14) (by kernel_rfl) _ _).trans (by kernel_rfl)
/-- a loop: slots 4 5 14 25 -/
noncomputable def F30_L0 (t0 : D) (t1 : D) (ds : List D) (h_1 : Hp) : Option Out :=
    (some ((nth 1 ds) : D)).bind fun t11 =>
    (some (t0 : D)).bind fun t12 =>
    (dLenT tab ty58 t12).bind fun t13 =>
    (dBin tab .lss ty3 t11 t13).bind fun t14 =>
    dIf t14
      ((some (t0 : D)).bind fun t17 =>
    (some ((nth 1 ds) : D)).bind fun t18 =>
    (dIndexAddr tab ty58 t17 t18).bind fun t19 =>
    (dLoad tab h_1 ty106 t19).bind fun t20 =>
    (some (t1 : D)).bind fun t21 =>
    (some ((nth 1 ds) : D)).bind fun t22 =>
    (dIndexAddr tab ty58 t21 t22).bind fun t23 =>
    (dLoad tab h_1 ty106 t23).bind fun t24 =>
    (dBin tab .neq ty106 t20 t24).bind fun t25 =>
    dIf t25
      ((some (.bool false : D)).bind fun t4_2 =>
      some (.ret, [t4_2, (nth 1 ds), t14, t25], h_1))
      ((some ((nth 1 ds) : D)).bind fun t15 =>
    (dBin tab .add ty3 t15 (.int .i64 1)).bind fun t16 =>
    (some (t16 : D)).bind fun t5_1 =>
    some (.nrm, [(nth 0 ds), t5_1, t14, t25], h_1)))
      (some ((.ext 0), [(nth 0 ds), (nth 1 ds), t14, (nth 3 ds)], h_1))
noncomputable def F30 (t0 : D) (t1 : D) (h : Hp) : Option (D × Hp) :=
  (some (.bool false : D)).bind fun t4 =>
  (some (t0 : D)).bind fun t6 =>
  (dLenT tab ty58 t6).bind fun t7 =>
  (some (t1 : D)).bind fun t8 =>
  (dLenT tab ty58 t8).bind fun t9 =>
  (dBin tab .neq ty3 t7 t9).bind fun t10 =>
  dIf t10
    ((some (.bool false : D)).bind fun t4_1 =>
    ((some (t4_1 : D)).bind fun d => (some ([] : List D)).bind fun ds => some (d :: ds)).bind fun ds => some (mkRes ds, h))
    ((some (.int .i64 0 : D)).bind fun t5 =>
  ((loopW (F30_L0 t0 t1) [t4, t5, .any, .any] h).bind fun r =>
    some ((unblk 0 r.1), [(nth 0 r.2.1), (nth 1 r.2.1), (nth 2 r.2.1), (nth 3 r.2.1)], r.2.2)).bind fun r_1 =>
  toEnd r_1.1 ((some (.bool true : D)).bind fun t4_3 =>
  ((some (t4_3 : D)).bind fun d => (some ([] : List D)).bind fun ds => some (d :: ds)).bind fun ds => some (mkRes ds, r_1.2.2)) fun x => exEnd x (((some ((nth 0 r_1.2.1) : D)).bind fun d => (some ([] : List D)).bind fun ds => some (d :: ds)).bind fun ds => some (mkRes ds, r_1.2.2)))
theorem e30 (t0 : D) (t1 : D) (h : Hp) : R fn30 [t0, t1] h = F30 t0 t1 h :=
  (run_fn (X := X) (F := Fs) (fi := i15) (by kernel_rfl) _ _).trans (by kernel_rfl)
noncomputable def F59 (t0 : D) (t1 : D) (t2 : D) (t3 : D) (h : Hp) : Option (D × Hp) :=
  (some (.nils : D)).bind fun t8 =>
  (some (t0 : D)).bind fun t11 =>
  (R fn79 [t11] h).bind fun p12 =>
  (some (p12.1 : D)).bind fun t0_1 =>
  (some (t3 : D)).bind fun t13 =>
  (dBin tab .lss ty3 t13 (.int .i64 1)).bind fun t14 =>
  dIf t14
    ((some (t0_1 : D)).bind fun t15 =>
    (some (t15 : D)).bind fun t8_1 =>
    ((some (t8_1 : D)).bind fun d => (some ([] : List D)).bind fun ds => some (d :: ds)).bind fun ds => scope h p12.2 (mkRes ds))
    ((some (t0_1 : D)).bind fun t17 =>
  (some (t1 : D)).bind fun t18 =>
  (some (t2 : D)).bind fun t19 =>
  (R fn80 [t17, t18, t19] p12.2).bind fun p20 =>
  (some (p20.1 : D)).bind fun t16 =>
  (dExtract 0 t16).bind fun t21 =>
  (dExtract 1 t16).bind fun t22 =>
  (some (t21 : D)).bind fun t9 =>
  (some (t22 : D)).bind fun t10 =>
  (some (t10 : D)).bind fun t23 =>
  (dUn .not t23).bind fun t24 =>
  (dIf t24
    ((some (t0_1 : D)).bind fun t25 =>
    (some (t9 : D)).bind fun t26 =>
    (some (t1 : D)).bind fun t27 =>
    (some (t2 : D)).bind fun t28 =>
    (dBuild tab ty106 [0, 1] [t27, t28]).bind fun t29 =>
    (pLitF tab ty58 1 [0] [t29]).bind fun t30 =>
    (R fn81 [t25, t26, t30] p20.2).bind fun p31 =>
    (some (p31.1 : D)).bind fun t0_2 =>
    some (.nrm, [t0_2], p31.2))
    (some (.nrm, [t0_1], p20.2))).bind fun r =>
  toEnd r.1 ((some ((nth 0 r.2.1) : D)).bind fun t32 =>
  (some (t9 : D)).bind fun t33 =>
  (dIndexAddr tab ty58 t32 t33).bind fun t34 =>
  (dFieldAddr tab ty106 2 t34).bind fun t35 =>
  (dLoad tab r.2.2 ty3 t35).bind fun t36 =>
  (some (t3 : D)).bind fun t37 =>
  (dBin tab .add ty3 t36 t37).bind fun t38 =>
  (dIndexAddr tab ty58 t32 t33).bind fun t39 =>
  (dFieldAddr tab ty106 2 t39).bind fun t40 =>
  ((dStore tab r.2.2 ty3 t40 t38).bind fun h' => some ((.und : D), h')).bind fun p909 =>
  (some ((nth 0 r.2.1) : D)).bind fun t41 =>
  (some (t41 : D)).bind fun t8_2 =>
  ((some (t8_2 : D)).bind fun d => (some ([] : List D)).bind fun ds => some (d :: ds)).bind fun ds => scope h p909.2 (mkRes ds)) fun x => exEnd x (((some (t8 : D)).bind fun d => (some ([] : List D)).bind fun ds => some (d :: ds)).bind fun ds => scope h r.2.2 (mkRes ds)))
theorem e59 (t0 : D) (t1 : D) (t2 : D) (t3 : D) (h : Hp) : R fn59 [t0, t1, t2, t3] h = F59 t0 t1 t2 t3 h :=
  (run_fn (X := X) (F := Fs) (fi := i16) (by kernel_rfl) _ _).trans (by kernel_rfl)
/-- a loop: slots 9 44 -/
noncomputable def F60_L0 (t0 : D) (t1 : D) (t2 : D) (ds : List D) (h_1 : Hp) : Option Out :=
    (some ((nth 0 ds) : D)).bind fun t14 =>
    (some (t0 : D)).bind fun t15 =>
    (dLenT tab ty58 t15).bind fun t16 =>
    (dBin tab .lss ty3 t14 t16).bind fun t17 =>
    (some (t17 : D)).bind fun t18 =>
    (gd t18 true (some (t0 : D))).bind fun t19 =>
    (gd t18 true (some ((nth 0 ds) : D))).bind fun t20 =>
    (gd t18 true (dIndexAddr tab ty58 t19 t20)).bind fun t21 =>
    (gd t18 true (dFieldAddr tab ty106 0 t21)).bind fun t22 =>
    (gd t18 true (dLoad tab h_1 ty3 t22)).bind fun t23 =>
    (gd t18 true (some (t1 : D))).bind fun t24 =>
    (gd t18 true (dBin tab .lss ty3 t23 t24)).bind fun t25 =>
    (gd t18 true (some (t25 : D))).bind fun t26 =>
    (gd t26 false (some (t0 : D))).bind fun t27 =>
    (gd t26 false (some ((nth 0 ds) : D))).bind fun t28 =>
    (gd t26 false (dIndexAddr tab ty58 t27 t28)).bind fun t29 =>
    (gd t26 false (dFieldAddr tab ty106 0 t29)).bind fun t30 =>
    (gd t26 false (dLoad tab h_1 ty3 t30)).bind fun t31 =>
    (gd t26 false (some (t1 : D))).bind fun t32 =>
    (gd t26 false (dBin tab .eql ty3 t31 t32)).bind fun t33 =>
    (gd t26 false (some (t33 : D))).bind fun t34 =>
    (gd t34 true (some (t0 : D))).bind fun t35 =>
    (gd t34 true (some ((nth 0 ds) : D))).bind fun t36 =>
    (gd t34 true (dIndexAddr tab ty58 t35 t36)).bind fun t37 =>
    (gd t34 true (dFieldAddr tab ty106 1 t37)).bind fun t38 =>
    (gd t34 true (dLoad tab h_1 ty9 t38)).bind fun t39 =>
    (gd t34 true (some (t2 : D))).bind fun t40 =>
    (gd t34 true (dBin tab .lss ty9 t39 t40)).bind fun t41 =>
    (gd t26 false (dPick t34 t41 (.bool false))).bind fun t42 =>
    (gd t18 true (dPick t26 (.bool true) t42)).bind fun t43 =>
    (dPick t18 t43 (.bool false)).bind fun t44 =>
    dIf t44
      ((some ((nth 0 ds) : D)).bind fun t45 =>
    (dBin tab .add ty3 t45 (.int .i64 1)).bind fun t46 =>
    (some (t46 : D)).bind fun t9_1 =>
    some (.nrm, [t9_1, t44], h_1))
      (some ((.ext 0), [(nth 0 ds), t44], h_1))
noncomputable def F60 (t0 : D) (t1 : D) (t2 : D) (t3 : D) (h : Hp) : Option (D × Hp) :=
  (some (.nils : D)).bind fun t8 =>
  (some (t3 : D)).bind fun t11 =>
  (dBin tab .leq ty3 t11 (.int .i64 0)).bind fun t12 =>
  dIf t12
    ((some (t0 : D)).bind fun t13 =>
    (some (t13 : D)).bind fun t8_1 =>
    ((some (t8_1 : D)).bind fun d => (some ([] : List D)).bind fun ds => some (d :: ds)).bind fun ds => scope h h (mkRes ds))
    ((some (.int .i64 0 : D)).bind fun t9 =>
  ((loopW (F60_L0 t0 t1 t2) [t9, .any] h).bind fun r =>
    some ((unblk 0 r.1), [(nth 0 r.2.1), (nth 1 r.2.1)], r.2.2)).bind fun r_1 =>
  toEnd r_1.1 ((some (t0 : D)).bind fun t47 =>
  (dAppend tab r_1.2.2 ty58 ty58 (.nils) t47).bind fun p48 =>
  (some (p48.1 : D)).bind fun t10 =>
  (some ((nth 0 r_1.2.1) : D)).bind fun t49 =>
  (some (t0 : D)).bind fun t50 =>
  (dLenT tab ty58 t50).bind fun t51 =>
  (dBin tab .lss ty3 t49 t51).bind fun t52 =>
  (some (t52 : D)).bind fun t53 =>
  (gd t53 true (some (t0 : D))).bind fun t54 =>
  (gd t53 true (some ((nth 0 r_1.2.1) : D))).bind fun t55 =>
  (gd t53 true (dIndexAddr tab ty58 t54 t55)).bind fun t56 =>
  (gd t53 true (dFieldAddr tab ty106 0 t56)).bind fun t57 =>
  (gd t53 true (dLoad tab p48.2 ty3 t57)).bind fun t58 =>
  (gd t53 true (some (t1 : D))).bind fun t59 =>
  (gd t53 true (dBin tab .eql ty3 t58 t59)).bind fun t60 =>
  (dPick t53 t60 (.bool false)).bind fun t61 =>
  (some (t61 : D)).bind fun t62 =>
  (gd t62 true (some (t0 : D))).bind fun t63 =>
  (gd t62 true (some ((nth 0 r_1.2.1) : D))).bind fun t64 =>
  (gd t62 true (dIndexAddr tab ty58 t63 t64)).bind fun t65 =>
  (gd t62 true (dFieldAddr tab ty106 1 t65)).bind fun t66 =>
  (gd t62 true (dLoad tab p48.2 ty9 t66)).bind fun t67 =>
  (gd t62 true (some (t2 : D))).bind fun t68 =>
  (gd t62 true (dBin tab .eql ty9 t67 t68)).bind fun t69 =>
  (dPick t62 t69 (.bool false)).bind fun t70 =>
  dIf t70
    ((some (t10 : D)).bind fun t71 =>
    (some ((nth 0 r_1.2.1) : D)).bind fun t72 =>
    (dIndexAddr tab ty58 t71 t72).bind fun t73 =>
    (dFieldAddr tab ty106 2 t73).bind fun t74 =>
    (dLoad tab p48.2 ty3 t74).bind fun t75 =>
    (some (t3 : D)).bind fun t76 =>
    (dBin tab .add ty3 t75 t76).bind fun t77 =>
    (dIndexAddr tab ty58 t71 t72).bind fun t78 =>
    (dFieldAddr tab ty106 2 t78).bind fun t79 =>
    ((dStore tab p48.2 ty3 t79 t77).bind fun h' => some ((.und : D), h')).bind fun p909 =>
    (some (t10 : D)).bind fun t80 =>
    (some (t80 : D)).bind fun t8_2 =>
    ((some (t8_2 : D)).bind fun d => (some ([] : List D)).bind fun ds => some (d :: ds)).bind fun ds => scope h p909.2 (mkRes ds))
    ((some (t10 : D)).bind fun t81 =>
  (some ((nth 0 r_1.2.1) : D)).bind fun t82 =>
  (some ((nth 0 r_1.2.1) : D)).bind fun t83 =>
  (dCut tab p48.2 ty58 false true [t81, t82, t83]).bind fun p84 =>
  (some (t1 : D)).bind fun t85 =>
  (some (t2 : D)).bind fun t86 =>
  (some (t3 : D)).bind fun t87 =>
  (dBuild tab ty106 [0, 1, 2] [t85, t86, t87]).bind fun t88 =>
  (pLitF tab ty58 1 [0] [t88]).bind fun t89 =>
  (dAppend tab p84.2 ty58 ty58 p84.1 t89).bind fun p90 =>
  (some (p90.1 : D)).bind fun t10_1 =>
  (some (t10_1 : D)).bind fun t91 =>
  (some (t0 : D)).bind fun t92 =>
  (some ((nth 0 r_1.2.1) : D)).bind fun t93 =>
  (dSliceAt tab ty58 true false false [t92, t93]).bind fun t94 =>
  (dAppend tab p90.2 ty58 ty58 t91 t94).bind fun p95 =>
  (some (p95.1 : D)).bind fun t8_3 =>
  ((some (t8_3 : D)).bind fun d => (some ([] : List D)).bind fun ds => some (d :: ds)).bind fun ds => scope h p95.2 (mkRes ds))) fun x => exEnd x (((some (t8 : D)).bind fun d => (some ([] : List D)).bind fun ds => some (d :: ds)).bind fun ds => scope h r_1.2.2 (mkRes ds)))
theorem e60 (t0 : D) (t1 : D) (t2 : D) (t3 : D) (h : Hp) : R fn60 [t0, t1, t2, t3] h = F60 t0 t1 t2 t3 h :=
  (run_fn (X := X) (F := Fs) (fi := i17) (by kernel_rfl) _ _).trans (by kernel_rfl)
/-- a loop: slots 3 4 8 -/
noncomputable def F1083_L0 (t0 : D) (ds : List D) (h_1 : Hp) : Option Out :=
    (some ((nth 1 ds) : D)).bind fun t7 =>
    (dBin tab .gtr ty3 t7 (.int .i64 0)).bind fun t8 =>
    dIf t8
      ((some ((nth 0 ds) : D)).bind fun t11 =>
    (some (t0 : D)).bind fun t12 =>
    (R fn24 [t12, .int .i64 2] h_1).bind fun p13 =>
    (dBin tab .add ty3 (.int .i64 1) p13.1).bind fun t14 =>
    (pLitF tab ty98 4 [0, 1, 2, 3] [.str [], .str [42], .str [100, 114, 111, 112], .str [115, 97, 109, 112, 108, 101]]).bind fun t15 =>
    (some (t0 : D)).bind fun t16 =>
    (R fn24 [t16, .int .i64 4] p13.2).bind fun p17 =>
    (dIndexAddr tab ty98 t15 p17.1).bind fun t18 =>
    (dLoad tab p17.2 ty9 t18).bind fun t19 =>
    (some (t0 : D)).bind fun t20 =>
    (R fn24 [t20, .int .i64 9] p17.2).bind fun p21 =>
    (dBin tab .add ty3 (.int .i64 1) p21.1).bind fun t22 =>
    (R fn60 [t11, t14, t19, t22] p21.2).bind fun p23 =>
    chk (dLoad tab p21.2 ty9 t18 = some t19)
    ((some (p23.1 : D)).bind fun t3_1 =>
    (some ((nth 1 ds) : D)).bind fun t9 =>
    (dBin tab .sub ty3 t9 (.int .i64 1)).bind fun t10 =>
    (some (t10 : D)).bind fun t4_1 =>
    some (.nrm, [t3_1, t4_1, t8], p23.2)))
      (some ((.ext 0), [(nth 0 ds), (nth 1 ds), t8], h_1))
noncomputable def F1083 (t0 : D) (h : Hp) : Option (D × Hp) :=
  (some (.nils : D)).bind fun t2 =>
  (some (.nils : D)).bind fun t3 =>
  (some (t0 : D)).bind fun t5 =>
  (R fn24 [t5, .int .i64 5] h).bind fun p6 =>
  (some (p6.1 : D)).bind fun t4 =>
  ((loopW (F1083_L0 t0) [t3, t4, .any] p6.2).bind fun r =>
    some ((unblk 0 r.1), [(nth 0 r.2.1), (nth 1 r.2.1), (nth 2 r.2.1)], r.2.2)).bind fun r_1 =>
  toEnd r_1.1 ((some ((nth 0 r_1.2.1) : D)).bind fun t24 =>
  (some (t24 : D)).bind fun t2_1 =>
  ((some (t2_1 : D)).bind fun d => (some ([] : List D)).bind fun ds => some (d :: ds)).bind fun ds => some (mkRes ds, r_1.2.2)) fun x => exEnd x (((some (t2 : D)).bind fun d => (some ([] : List D)).bind fun ds => some (d :: ds)).bind fun ds => some (mkRes ds, r_1.2.2))
theorem e1083 (t0 : D) (h : Hp) : R fn1083 [t0] h = F1083 t0 h :=
  (run_fn (X := X) (F := Fs) (fi := i18) (by kernel_rfl) _ _).trans (by kernel_rfl)
noncomputable def F57 (t0 : D) (h : Hp) : Option (D × Hp) :=
  (some (.bool false : D)).bind fun t2 =>
  (some (t0 : D)).bind fun t3 =>
  (dNilCheck t3).bind fun t4 =>
  (dFieldAddr tab ty101 1 t4).bind fun t5 =>
  (dLoad tab h ty3 t5).bind fun t6 =>
  (some (t0 : D)).bind fun t7 =>
  (dNilCheck t7).bind fun t8 =>
  (dFieldAddr tab ty101 0 t8).bind fun t9 =>
  (dLoad tab h ty22 t9).bind fun t10 =>
  (dLenT tab ty22 t10).bind fun t11 =>
  (dBin tab .lss ty3 t6 t11).bind fun t12 =>
  (some (t12 : D)).bind fun t2_1 =>
  ((some (t2_1 : D)).bind fun d => (some ([] : List D)).bind fun ds => some (d :: ds)).bind fun ds => some (mkRes ds, h)
theorem e57 (t0 : D) (h : Hp) : R fn57 [t0] h = F57 t0 h :=
  (run_fn (X := X) (F := Fs) (fi := i19) (by kernel_rfl) _ _).trans (by kernel_rfl)
noncomputable def F1013 (t0 : D) (t1 : D) (t2 : D) (h : Hp) : Option (D × Hp) :=
  (some (.int .i64 0 : D)).bind fun t6 =>
  (some (.bool false : D)).bind fun t7 =>
  (some (t0 : D)).bind fun t8 =>
  (some (t1 : D)).bind fun t9 =>
  (some (t2 : D)).bind fun t10 =>
  (dBuild tab ty1006 [0, 1] [t9, t10]).bind fun t11 =>
  (R fn1016 [t8, t11, .fn (.func fn1017) [] []] h).bind fun p12 =>
  (dExtract 0 p12.1).bind fun t13 =>
  (dExtract 1 p12.1).bind fun t14 =>
  (some (t13 : D)).bind fun t6_1 =>
  (some (t14 : D)).bind fun t7_1 =>
  ((some (t6_1 : D)).bind fun d => ((some (t7_1 : D)).bind fun d => (some ([] : List D)).bind fun ds => some (d :: ds)).bind fun ds => some (d :: ds)).bind fun ds => some (mkRes ds, p12.2)
theorem e1013 (t0 : D) (t1 : D) (t2 : D) (h : Hp) : R fn1013 [t0, t1, t2] h = F1013 t0 t1 t2 h :=
  (run_fn (X := X) (F := Fs) (fi := i20) (by kernel_rfl) _ _).trans (by kernel_rfl)
/-- a loop: slots 8 39 -/
noncomputable def F1084_L0 (t0 : D) (t1 : D) (t2 : D) (ds : List D) (h_1 : Hp) : Option Out :=
    (some ((nth 0 ds) : D)).bind fun t9 =>
    (some (t0 : D)).bind fun t10 =>
    (dLenT tab ty1007 t10).bind fun t11 =>
    (dBin tab .lss ty3 t9 t11).bind fun t12 =>
    (some (t12 : D)).bind fun t13 =>
    (gd t13 true (some (t0 : D))).bind fun t14 =>
    (gd t13 true (some ((nth 0 ds) : D))).bind fun t15 =>
    (gd t13 true (dIndexAddr tab ty1007 t14 t15)).bind fun t16 =>
    (gd t13 true (dFieldAddr tab ty1006 0 t16)).bind fun t17 =>
    (gd t13 true (dLoad tab h_1 ty3 t17)).bind fun t18 =>
    (gd t13 true (some (t1 : D))).bind fun t19 =>
    (gd t13 true (dBin tab .lss ty3 t18 t19)).bind fun t20 =>
    (gd t13 true (some (t20 : D))).bind fun t21 =>
    (gd t21 false (some (t0 : D))).bind fun t22 =>
    (gd t21 false (some ((nth 0 ds) : D))).bind fun t23 =>
    (gd t21 false (dIndexAddr tab ty1007 t22 t23)).bind fun t24 =>
    (gd t21 false (dFieldAddr tab ty1006 0 t24)).bind fun t25 =>
    (gd t21 false (dLoad tab h_1 ty3 t25)).bind fun t26 =>
    (gd t21 false (some (t1 : D))).bind fun t27 =>
    (gd t21 false (dBin tab .eql ty3 t26 t27)).bind fun t28 =>
    (gd t21 false (some (t28 : D))).bind fun t29 =>
    (gd t29 true (some (t0 : D))).bind fun t30 =>
    (gd t29 true (some ((nth 0 ds) : D))).bind fun t31 =>
    (gd t29 true (dIndexAddr tab ty1007 t30 t31)).bind fun t32 =>
    (gd t29 true (dFieldAddr tab ty1006 1 t32)).bind fun t33 =>
    (gd t29 true (dLoad tab h_1 ty3 t33)).bind fun t34 =>
    (gd t29 true (some (t2 : D))).bind fun t35 =>
    (gd t29 true (dBin tab .lss ty3 t34 t35)).bind fun t36 =>
    (gd t21 false (dPick t29 t36 (.bool false))).bind fun t37 =>
    (gd t13 true (dPick t21 (.bool true) t37)).bind fun t38 =>
    (dPick t13 t38 (.bool false)).bind fun t39 =>
    dIf t39
      ((some ((nth 0 ds) : D)).bind fun t40 =>
    (dBin tab .add ty3 t40 (.int .i64 1)).bind fun t41 =>
    (some (t41 : D)).bind fun t8_1 =>
    some (.nrm, [t8_1, t39], h_1))
      (some ((.ext 0), [(nth 0 ds), t39], h_1))
noncomputable def F1084 (t0 : D) (t1 : D) (t2 : D) (h : Hp) : Option (D × Hp) :=
  (some (.int .i64 0 : D)).bind fun t6 =>
  (some (.bool false : D)).bind fun t7 =>
  (some (.int .i64 0 : D)).bind fun t8 =>
  ((loopW (F1084_L0 t0 t1 t2) [t8, .any] h).bind fun r =>
    some ((unblk 0 r.1), [(nth 0 r.2.1), (nth 1 r.2.1)], r.2.2)).bind fun r_1 =>
  toEnd r_1.1 ((some ((nth 0 r_1.2.1) : D)).bind fun t42 =>
  (some ((nth 0 r_1.2.1) : D)).bind fun t43 =>
  (some (t0 : D)).bind fun t44 =>
  (dLenT tab ty1007 t44).bind fun t45 =>
  (dBin tab .lss ty3 t43 t45).bind fun t46 =>
  (some (t46 : D)).bind fun t47 =>
  (gd t47 true (some (t0 : D))).bind fun t48 =>
  (gd t47 true (some ((nth 0 r_1.2.1) : D))).bind fun t49 =>
  (gd t47 true (dIndexAddr tab ty1007 t48 t49)).bind fun t50 =>
  (gd t47 true (dFieldAddr tab ty1006 0 t50)).bind fun t51 =>
  (gd t47 true (dLoad tab r_1.2.2 ty3 t51)).bind fun t52 =>
  (gd t47 true (some (t1 : D))).bind fun t53 =>
  (gd t47 true (dBin tab .eql ty3 t52 t53)).bind fun t54 =>
  (dPick t47 t54 (.bool false)).bind fun t55 =>
  (some (t55 : D)).bind fun t56 =>
  (gd t56 true (some (t0 : D))).bind fun t57 =>
  (gd t56 true (some ((nth 0 r_1.2.1) : D))).bind fun t58 =>
  (gd t56 true (dIndexAddr tab ty1007 t57 t58)).bind fun t59 =>
  (gd t56 true (dFieldAddr tab ty1006 1 t59)).bind fun t60 =>
  (gd t56 true (dLoad tab r_1.2.2 ty3 t60)).bind fun t61 =>
  (gd t56 true (some (t2 : D))).bind fun t62 =>
  (gd t56 true (dBin tab .eql ty3 t61 t62)).bind fun t63 =>
  (dPick t56 t63 (.bool false)).bind fun t64 =>
  (some (t42 : D)).bind fun t6_1 =>
  (some (t64 : D)).bind fun t7_1 =>
  ((some (t6_1 : D)).bind fun d => ((some (t7_1 : D)).bind fun d => (some ([] : List D)).bind fun ds => some (d :: ds)).bind fun ds => some (d :: ds)).bind fun ds => some (mkRes ds, r_1.2.2)) fun x => exEnd x (((some (t6 : D)).bind fun d => ((some (t7 : D)).bind fun d => (some ([] : List D)).bind fun ds => some (d :: ds)).bind fun ds => some (d :: ds)).bind fun ds => some (mkRes ds, r_1.2.2))
theorem e1084 (t0 : D) (t1 : D) (t2 : D) (h : Hp) : R fn1084 [t0, t1, t2] h = F1084 t0 t1 t2 h :=
  (run_fn (X := X) (F := Fs) (fi := i21) (by kernel_rfl) _ _).trans (by kernel_rfl)
noncomputable def F80 (t0 : D) (t1 : D) (t2 : D) (h : Hp) : Option (D × Hp) :=
  (some (.int .i64 0 : D)).bind fun t6 =>
  (some (.bool false : D)).bind fun t7 =>
  (some (t0 : D)).bind fun t8 =>
  (some (t1 : D)).bind fun t9 =>
  (some (t2 : D)).bind fun t10 =>
  (dBuild tab ty106 [0, 1] [t9, t10]).bind fun t11 =>
  (R fn87 [t8, t11, .fn (.func fn88) [] []] h).bind fun p12 =>
  (dExtract 0 p12.1).bind fun t13 =>
  (dExtract 1 p12.1).bind fun t14 =>
  (some (t13 : D)).bind fun t6_1 =>
  (some (t14 : D)).bind fun t7_1 =>
  ((some (t6_1 : D)).bind fun d => ((some (t7_1 : D)).bind fun d => (some ([] : List D)).bind fun ds => some (d :: ds)).bind fun ds => some (d :: ds)).bind fun ds => some (mkRes ds, p12.2)
theorem e80 (t0 : D) (t1 : D) (t2 : D) (h : Hp) : R fn80 [t0, t1, t2] h = F80 t0 t1 t2 h :=
  (run_fn (X := X) (F := Fs) (fi := i22) (by kernel_rfl) _ _).trans (by kernel_rfl)
noncomputable def F79 (t0 : D) (h : Hp) : Option (D × Hp) :=
  (some (.nils : D)).bind fun t2 =>
  (some (t0 : D)).bind fun t3 =>
  (dBin tab .eql ty58 t3 (.nils)).bind fun t4 =>
  dIf t4
    ((some (.nils : D)).bind fun t2_1 =>
    ((some (t2_1 : D)).bind fun d => (some ([] : List D)).bind fun ds => some (d :: ds)).bind fun ds => some (mkRes ds, h))
    ((pLitF tab ty58 0 [] []).bind fun t5 =>
  (some (t0 : D)).bind fun t6 =>
  (dAppend tab h ty58 ty58 t5 t6).bind fun p7 =>
  (some (p7.1 : D)).bind fun t2_2 =>
  ((some (t2_2 : D)).bind fun d => (some ([] : List D)).bind fun ds => some (d :: ds)).bind fun ds => some (mkRes ds, p7.2))
theorem e79 (t0 : D) (h : Hp) : R fn79 [t0] h = F79 t0 h :=
  (run_fn (X := X) (F := Fs) (fi := i23) (by kernel_rfl) _ _).trans (by kernel_rfl)
/-- a loop: slots 9 10 11 17 31 -/
noncomputable def F1016_L0 (t0 : D) (t2 : D) (t4 : D) (ds : List D) (h_1 : Hp) : Option Out :=
    (some ((nth 0 ds) : D)).bind fun t15 =>
    (some ((nth 1 ds) : D)).bind fun t16 =>
    (dBin tab .lss ty3 t15 t16).bind fun t17 =>
    dIf t17
      ((some ((nth 0 ds) : D)).bind fun t18 =>
    (some ((nth 1 ds) : D)).bind fun t19 =>
    (dBin tab .add ty3 t18 t19).bind fun t20 =>
    (dConv tab ty3 ty134 t20).bind fun t21 =>
    (dBin tab .shr ty134 t21 (.int .u64 1)).bind fun t22 =>
    (dConv tab ty134 ty3 t22).bind fun t23 =>
    (some (t23 : D)).bind fun t11 =>
    (some (t2 : D)).bind fun t24 =>
    (some (t0 : D)).bind fun t25 =>
    (some (t11 : D)).bind fun t26 =>
    (dIndexAddr tab ty1007 t25 t26).bind fun t27 =>
    (dLoad tab h_1 ty1006 t27).bind fun t28 =>
    (dLoad tab h_1 ty1006 t4).bind fun t29 =>
    (callV R t24 [t28, t29] h_1).bind fun p30 =>
    (dBin tab .lss ty3 p30.1 (.int .i64 0)).bind fun t31 =>
    (dIf t31
      ((some (t11 : D)).bind fun t32 =>
      (dBin tab .add ty3 t32 (.int .i64 1)).bind fun t33 =>
      (some (t33 : D)).bind fun t9_1 =>
      some (.nrm, [t9_1, (nth 1 ds)], p30.2))
      ((some (t11 : D)).bind fun t34 =>
      (some (t34 : D)).bind fun t10_1 =>
      some (.nrm, [(nth 0 ds), t10_1], p30.2))).bind fun r_1 =>
    some ((unblk 1 r_1.1), [(nth 0 r_1.2.1), (nth 1 r_1.2.1), t11, t17, t31], r_1.2.2))
      (some ((.ext 0), [(nth 0 ds), (nth 1 ds), (nth 2 ds), t17, (nth 4 ds)], h_1))
noncomputable def F1016 (t0 : D) (t1 : D) (t2 : D) (h : Hp) : Option (D × Hp) :=
  (pBoxF t1).bind fun t4 =>
  (some (.int .i64 0 : D)).bind fun t6 =>
  (some (.bool false : D)).bind fun t7 =>
  (some (t0 : D)).bind fun t12 =>
  (dLenT tab ty1007 t12).bind fun t13 =>
  (some (t13 : D)).bind fun t8 =>
  (some (t8 : D)).bind fun t14 =>
  (some (.int .i64 0 : D)).bind fun t9 =>
  (some (t14 : D)).bind fun t10 =>
  ((loopW (F1016_L0 t0 t2 t4) [t9, t10, .any, .any, .any] h).bind fun r =>
    some ((unblk 0 r.1), [(nth 0 r.2.1), (nth 1 r.2.1), (nth 2 r.2.1), (nth 3 r.2.1), (nth 4 r.2.1)], r.2.2)).bind fun r_2 =>
  toEnd r_2.1 ((some ((nth 0 r_2.2.1) : D)).bind fun t35 =>
  (some ((nth 0 r_2.2.1) : D)).bind fun t36 =>
  (some (t8 : D)).bind fun t37 =>
  (dBin tab .lss ty3 t36 t37).bind fun t38 =>
  (some (t38 : D)).bind fun t39 =>
  (gd t39 true (some (t2 : D))).bind fun t40 =>
  (gd t39 true (some (t0 : D))).bind fun t41 =>
  (gd t39 true (some ((nth 0 r_2.2.1) : D))).bind fun t42 =>
  (gd t39 true (dIndexAddr tab ty1007 t41 t42)).bind fun t43 =>
  (gd t39 true (dLoad tab r_2.2.2 ty1006 t43)).bind fun t44 =>
  (gd t39 true (dLoad tab r_2.2.2 ty1006 t4)).bind fun t45 =>
  (gdW t39 true r_2.2.2 (callV R t40 [t44, t45] r_2.2.2)).bind fun p46 =>
  (gd t39 true (dBin tab .eql ty3 p46.1 (.int .i64 0))).bind fun t47 =>
  (dPick t39 t47 (.bool false)).bind fun t48 =>
  (some (t35 : D)).bind fun t6_1 =>
  (some (t48 : D)).bind fun t7_1 =>
  ((some (t6_1 : D)).bind fun d => ((some (t7_1 : D)).bind fun d => (some ([] : List D)).bind fun ds => some (d :: ds)).bind fun ds => some (d :: ds)).bind fun ds => some (mkRes ds, p46.2)) fun x => exEnd x (((some (t6 : D)).bind fun d => ((some (t7 : D)).bind fun d => (some ([] : List D)).bind fun ds => some (d :: ds)).bind fun ds => some (d :: ds)).bind fun ds => some (mkRes ds, r_2.2.2))
theorem e1016 (t0 : D) (t1 : D) (t2 : D) (h : Hp) : R fn1016 [t0, t1, t2] h = F1016 t0 t1 t2 h :=
  (run_fn (X := X) (F := Fs) (fi := i25) (by kernel_rfl) _ _).trans (by kernel_rfl)
noncomputable def F1017 (t0 : D) (t1 : D) (h : Hp) : Option (D × Hp) :=
  (pBoxF t0).bind fun t2 =>
  (pBoxF t1).bind fun t3 =>
  (some (.int .i64 0 : D)).bind fun t4 =>
  (dFieldAddr tab ty1006 0 t2).bind fun t5 =>
  (dLoad tab h ty3 t5).bind fun t6 =>
  (dFieldAddr tab ty1006 0 t3).bind fun t7 =>
  (dLoad tab h ty3 t7).bind fun t8 =>
  (R fn90 [t6, t8] h).bind fun p9 =>
  (dFieldAddr tab ty1006 1 t2).bind fun t10 =>
  (dLoad tab p9.2 ty3 t10).bind fun t11 =>
  (dFieldAddr tab ty1006 1 t3).bind fun t12 =>
  (dLoad tab p9.2 ty3 t12).bind fun t13 =>
  (R fn90 [t11, t13] p9.2).bind fun p14 =>
  (pLitF tab ty82 2 [0, 1] [p9.1, p14.1]).bind fun t15 =>
  (R fn89 [t15] p14.2).bind fun p16 =>
  chk (dLoad tab h ty3 t10 = some t11)
  (chk (dLoad tab h ty3 t12 = some t13)
  ((some (p16.1 : D)).bind fun t4_1 =>
  ((some (t4_1 : D)).bind fun d => (some ([] : List D)).bind fun ds => some (d :: ds)).bind fun ds => some (mkRes ds, p16.2)))
theorem e1017 (t0 : D) (t1 : D) (h : Hp) : R fn1017 [t0, t1] h = F1017 t0 t1 h :=
  (run_fn (X := X) (F := Fs) (fi := i26) (by kernel_rfl) _ _).trans (by kernel_rfl)
/-- a loop: slots 2 5 8 9 14 -/
noncomputable def F89_L0 (t3 : D) (t6 : D) (t7 : D) (ds : List D) (h_1 : Hp) : Option Out :=
    (dBin tab .lss ty3 (nth 2 ds) t7).bind fun t9 =>
    dIf t9
      ((dIndexAddr tab ty82 t6 (nth 2 ds)).bind fun t10 =>
    (dLoad tab h_1 ty3 t10).bind fun t11 =>
    (some (t11 : D)).bind fun t5 =>
    (some (t5 : D)).bind fun t12 =>
    (some (t3 : D)).bind fun t13 =>
    (dBin tab .neq ty3 t12 t13).bind fun t14 =>
    dIf t14
      ((some (t5 : D)).bind fun t15 =>
      (some (t15 : D)).bind fun t2_1 =>
      some (.ret, [t2_1, t5, (nth 2 ds), t9, t14], h_1))
      ((dBin tab .add ty3 (nth 2 ds) (.int .i64 1)).bind fun t16 =>
    (some (t16 : D)).bind fun t8_1 =>
    some (.nrm, [(nth 0 ds), t5, t8_1, t9, t14], h_1)))
      (some ((.ext 0), [(nth 0 ds), (nth 1 ds), (nth 2 ds), t9, (nth 4 ds)], h_1))
noncomputable def F89 (t0 : D) (h : Hp) : Option (D × Hp) :=
  (some (.int .i64 0 : D)).bind fun t2 =>
  (some (.int .i64 0 : D)).bind fun t3 =>
  (some (t0 : D)).bind fun t6 =>
  (dLenT tab ty82 t6).bind fun t7 =>
  (some (.int .i64 0 : D)).bind fun t8 =>
  ((loopW (F89_L0 t3 t6 t7) [t2, .any, t8, .any, .any] h).bind fun r =>
    some ((unblk 0 r.1), [(nth 0 r.2.1), (nth 1 r.2.1), (nth 2 r.2.1), (nth 3 r.2.1), (nth 4 r.2.1)], r.2.2)).bind fun r_1 =>
  toEnd r_1.1 ((some (t3 : D)).bind fun t17 =>
  (some (t17 : D)).bind fun t2_2 =>
  ((some (t2_2 : D)).bind fun d => (some ([] : List D)).bind fun ds => some (d :: ds)).bind fun ds => some (mkRes ds, r_1.2.2)) fun x => exEnd x (((some ((nth 0 r_1.2.1) : D)).bind fun d => (some ([] : List D)).bind fun ds => some (d :: ds)).bind fun ds => some (mkRes ds, r_1.2.2))
theorem e89 (t0 : D) (h : Hp) : R fn89 [t0] h = F89 t0 h :=
  (run_fn (X := X) (F := Fs) (fi := i27) (by kernel_rfl) _ _).trans (by kernel_rfl)
noncomputable def F90 (t0 : D) (t1 : D) (h : Hp) : Option (D × Hp) :=
  (some (.int .i64 0 : D)).bind fun t4 =>
  (some (t0 : D)).bind fun t7 =>
  (R fn99 [t7] h).bind fun p8 =>
  (some (p8.1 : D)).bind fun t5 =>
  (some (t1 : D)).bind fun t9 =>
  (R fn99 [t9] p8.2).bind fun p10 =>
  (some (p10.1 : D)).bind fun t6 =>
  (some (t5 : D)).bind fun t11 =>
  dIf t11
    ((some (t6 : D)).bind fun t12 =>
    dIf t12
      ((some (.int .i64 0 : D)).bind fun t4_1 =>
      ((some (t4_1 : D)).bind fun d => (some ([] : List D)).bind fun ds => some (d :: ds)).bind fun ds => some (mkRes ds, p10.2))
      ((some (.int .i64 (-1) : D)).bind fun t4_2 =>
    ((some (t4_2 : D)).bind fun d => (some ([] : List D)).bind fun ds => some (d :: ds)).bind fun ds => some (mkRes ds, p10.2)))
    ((some (t6 : D)).bind fun t13 =>
  dIf t13
    ((some (.int .i64 1 : D)).bind fun t4_3 =>
    ((some (t4_3 : D)).bind fun d => (some ([] : List D)).bind fun ds => some (d :: ds)).bind fun ds => some (mkRes ds, p10.2))
    ((some (t0 : D)).bind fun t14 =>
  (some (t1 : D)).bind fun t15 =>
  (dBin tab .lss ty3 t14 t15).bind fun t16 =>
  dIf t16
    ((some (.int .i64 (-1) : D)).bind fun t4_4 =>
    ((some (t4_4 : D)).bind fun d => (some ([] : List D)).bind fun ds => some (d :: ds)).bind fun ds => some (mkRes ds, p10.2))
    ((some (t0 : D)).bind fun t17 =>
  (some (t1 : D)).bind fun t18 =>
  (dBin tab .gtr ty3 t17 t18).bind fun t19 =>
  dIf t19
    ((some (.int .i64 1 : D)).bind fun t4_5 =>
    ((some (t4_5 : D)).bind fun d => (some ([] : List D)).bind fun ds => some (d :: ds)).bind fun ds => some (mkRes ds, p10.2))
    ((some (.int .i64 0 : D)).bind fun t4_6 =>
  ((some (t4_6 : D)).bind fun d => (some ([] : List D)).bind fun ds => some (d :: ds)).bind fun ds => some (mkRes ds, p10.2)))))
theorem e90 (t0 : D) (t1 : D) (h : Hp) : R fn90 [t0, t1] h = F90 t0 t1 h :=
  (run_fn (X := X) (F := Fs) (fi := i28) (by kernel_rfl) _ _).trans (by kernel_rfl)
/-- a loop: slots 9 10 11 17 31 -/
noncomputable def F87_L0 (t0 : D) (t2 : D) (t4 : D) (ds : List D) (h_1 : Hp) : Option Out :=
    (some ((nth 0 ds) : D)).bind fun t15 =>
    (some ((nth 1 ds) : D)).bind fun t16 =>
    (dBin tab .lss ty3 t15 t16).bind fun t17 =>
    dIf t17
      ((some ((nth 0 ds) : D)).bind fun t18 =>
    (some ((nth 1 ds) : D)).bind fun t19 =>
    (dBin tab .add ty3 t18 t19).bind fun t20 =>
    (dConv tab ty3 ty134 t20).bind fun t21 =>
    (dBin tab .shr ty134 t21 (.int .u64 1)).bind fun t22 =>
    (dConv tab ty134 ty3 t22).bind fun t23 =>
    (some (t23 : D)).bind fun t11 =>
    (some (t2 : D)).bind fun t24 =>
    (some (t0 : D)).bind fun t25 =>
    (some (t11 : D)).bind fun t26 =>
    (dIndexAddr tab ty58 t25 t26).bind fun t27 =>
    (dLoad tab h_1 ty106 t27).bind fun t28 =>
    (dLoad tab h_1 ty106 t4).bind fun t29 =>
    (callV R t24 [t28, t29] h_1).bind fun p30 =>
    (dBin tab .lss ty3 p30.1 (.int .i64 0)).bind fun t31 =>
    (dIf t31
      ((some (t11 : D)).bind fun t32 =>
      (dBin tab .add ty3 t32 (.int .i64 1)).bind fun t33 =>
      (some (t33 : D)).bind fun t9_1 =>
      some (.nrm, [t9_1, (nth 1 ds)], p30.2))
      ((some (t11 : D)).bind fun t34 =>
      (some (t34 : D)).bind fun t10_1 =>
      some (.nrm, [(nth 0 ds), t10_1], p30.2))).bind fun r_1 =>
    some ((unblk 1 r_1.1), [(nth 0 r_1.2.1), (nth 1 r_1.2.1), t11, t17, t31], r_1.2.2))
      (some ((.ext 0), [(nth 0 ds), (nth 1 ds), (nth 2 ds), t17, (nth 4 ds)], h_1))
noncomputable def F87 (t0 : D) (t1 : D) (t2 : D) (h : Hp) : Option (D × Hp) :=
  (pBoxF t1).bind fun t4 =>
  (some (.int .i64 0 : D)).bind fun t6 =>
  (some (.bool false : D)).bind fun t7 =>
  (some (t0 : D)).bind fun t12 =>
  (dLenT tab ty58 t12).bind fun t13 =>
  (some (t13 : D)).bind fun t8 =>
  (some (t8 : D)).bind fun t14 =>
  (some (.int .i64 0 : D)).bind fun t9 =>
  (some (t14 : D)).bind fun t10 =>
  ((loopW (F87_L0 t0 t2 t4) [t9, t10, .any, .any, .any] h).bind fun r =>
    some ((unblk 0 r.1), [(nth 0 r.2.1), (nth 1 r.2.1), (nth 2 r.2.1), (nth 3 r.2.1), (nth 4 r.2.1)], r.2.2)).bind fun r_2 =>
  toEnd r_2.1 ((some ((nth 0 r_2.2.1) : D)).bind fun t35 =>
  (some ((nth 0 r_2.2.1) : D)).bind fun t36 =>
  (some (t8 : D)).bind fun t37 =>
  (dBin tab .lss ty3 t36 t37).bind fun t38 =>
  (some (t38 : D)).bind fun t39 =>
  (gd t39 true (some (t2 : D))).bind fun t40 =>
  (gd t39 true (some (t0 : D))).bind fun t41 =>
  (gd t39 true (some ((nth 0 r_2.2.1) : D))).bind fun t42 =>
  (gd t39 true (dIndexAddr tab ty58 t41 t42)).bind fun t43 =>
  (gd t39 true (dLoad tab r_2.2.2 ty106 t43)).bind fun t44 =>
  (gd t39 true (dLoad tab r_2.2.2 ty106 t4)).bind fun t45 =>
  (gdW t39 true r_2.2.2 (callV R t40 [t44, t45] r_2.2.2)).bind fun p46 =>
  (gd t39 true (dBin tab .eql ty3 p46.1 (.int .i64 0))).bind fun t47 =>
  (dPick t39 t47 (.bool false)).bind fun t48 =>
  (some (t35 : D)).bind fun t6_1 =>
  (some (t48 : D)).bind fun t7_1 =>
  ((some (t6_1 : D)).bind fun d => ((some (t7_1 : D)).bind fun d => (some ([] : List D)).bind fun ds => some (d :: ds)).bind fun ds => some (d :: ds)).bind fun ds => some (mkRes ds, p46.2)) fun x => exEnd x (((some (t6 : D)).bind fun d => ((some (t7 : D)).bind fun d => (some ([] : List D)).bind fun ds => some (d :: ds)).bind fun ds => some (d :: ds)).bind fun ds => some (mkRes ds, r_2.2.2))
theorem e87 (t0 : D) (t1 : D) (t2 : D) (h : Hp) : R fn87 [t0, t1, t2] h = F87 t0 t1 t2 h :=
  (run_fn (X := X) (F := Fs) (fi := i29) (by kernel_rfl) _ _).trans (by kernel_rfl)
noncomputable def F88 (t0 : D) (t1 : D) (h : Hp) : Option (D × Hp) :=
  (pBoxF t0).bind fun t2 =>
  (pBoxF t1).bind fun t3 =>
  (some (.int .i64 0 : D)).bind fun t4 =>
  (dFieldAddr tab ty106 0 t2).bind fun t5 =>
  (dLoad tab h ty3 t5).bind fun t6 =>
  (dFieldAddr tab ty106 0 t3).bind fun t7 =>
  (dLoad tab h ty3 t7).bind fun t8 =>
  (R fn90 [t6, t8] h).bind fun p9 =>
  (dFieldAddr tab ty106 1 t2).bind fun t10 =>
  (dLoad tab p9.2 ty9 t10).bind fun t11 =>
  (dFieldAddr tab ty106 1 t3).bind fun t12 =>
  (dLoad tab p9.2 ty9 t12).bind fun t13 =>
  (R fn91 [t11, t13] p9.2).bind fun p14 =>
  (pLitF tab ty82 2 [0, 1] [p9.1, p14.1]).bind fun t15 =>
  (R fn89 [t15] p14.2).bind fun p16 =>
  chk (dLoad tab h ty9 t10 = some t11)
  (chk (dLoad tab h ty9 t12 = some t13)
  ((some (p16.1 : D)).bind fun t4_1 =>
  ((some (t4_1 : D)).bind fun d => (some ([] : List D)).bind fun ds => some (d :: ds)).bind fun ds => some (mkRes ds, p16.2)))
theorem e88 (t0 : D) (t1 : D) (h : Hp) : R fn88 [t0, t1] h = F88 t0 t1 h :=
  (run_fn (X := X) (F := Fs) (fi := i30) (by kernel_rfl) _ _).trans (by kernel_rfl)
noncomputable def F91 (t0 : D) (t1 : D) (h : Hp) : Option (D × Hp) :=
  (some (.int .i64 0 : D)).bind fun t4 =>
  (some (t0 : D)).bind fun t7 =>
  (R fn100 [t7] h).bind fun p8 =>
  (some (p8.1 : D)).bind fun t5 =>
  (some (t1 : D)).bind fun t9 =>
  (R fn100 [t9] p8.2).bind fun p10 =>
  (some (p10.1 : D)).bind fun t6 =>
  (some (t5 : D)).bind fun t11 =>
  dIf t11
    ((some (t6 : D)).bind fun t12 =>
    dIf t12
      ((some (.int .i64 0 : D)).bind fun t4_1 =>
      ((some (t4_1 : D)).bind fun d => (some ([] : List D)).bind fun ds => some (d :: ds)).bind fun ds => some (mkRes ds, p10.2))
      ((some (.int .i64 (-1) : D)).bind fun t4_2 =>
    ((some (t4_2 : D)).bind fun d => (some ([] : List D)).bind fun ds => some (d :: ds)).bind fun ds => some (mkRes ds, p10.2)))
    ((some (t6 : D)).bind fun t13 =>
  dIf t13
    ((some (.int .i64 1 : D)).bind fun t4_3 =>
    ((some (t4_3 : D)).bind fun d => (some ([] : List D)).bind fun ds => some (d :: ds)).bind fun ds => some (mkRes ds, p10.2))
    ((some (t0 : D)).bind fun t14 =>
  (some (t1 : D)).bind fun t15 =>
  (dBin tab .lss ty9 t14 t15).bind fun t16 =>
  dIf t16
    ((some (.int .i64 (-1) : D)).bind fun t4_4 =>
    ((some (t4_4 : D)).bind fun d => (some ([] : List D)).bind fun ds => some (d :: ds)).bind fun ds => some (mkRes ds, p10.2))
    ((some (t0 : D)).bind fun t17 =>
  (some (t1 : D)).bind fun t18 =>
  (dBin tab .gtr ty9 t17 t18).bind fun t19 =>
  dIf t19
    ((some (.int .i64 1 : D)).bind fun t4_5 =>
    ((some (t4_5 : D)).bind fun d => (some ([] : List D)).bind fun ds => some (d :: ds)).bind fun ds => some (mkRes ds, p10.2))
    ((some (.int .i64 0 : D)).bind fun t4_6 =>
  ((some (t4_6 : D)).bind fun d => (some ([] : List D)).bind fun ds => some (d :: ds)).bind fun ds => some (mkRes ds, p10.2)))))
theorem e91 (t0 : D) (t1 : D) (h : Hp) : R fn91 [t0, t1] h = F91 t0 t1 h :=
  (run_fn (X := X) (F := Fs) (fi := i31) (by kernel_rfl) _ _).trans (by kernel_rfl)
noncomputable def F93 (t0 : D) (t1 : D) (h : Hp) : Option (D × Hp) :=
  (some (t0 : D)).bind fun t4 =>
  (some (t0 : D)).bind fun t5 =>
  (dLenT tab ty58 t5).bind fun t6 =>
  (some (t1 : D)).bind fun t7 =>
  (dBin tab .sub ty3 t6 t7).bind fun t8 =>
  (R fn101 [t4, t8] h).bind fun p9 =>
  (some ([] : List D)).bind fun ds => some (mkRes ds, p9.2)
theorem e93 (t0 : D) (t1 : D) (h : Hp) : R fn93 [t0, t1] h = F93 t0 t1 h :=
  (run_fn (X := X) (F := Fs) (fi := i33) (by kernel_rfl) _ _).trans (by kernel_rfl)
noncomputable def F99 (t0 : D) (h : Hp) : Option (D × Hp) :=
  (some (.bool false : D)).bind fun t2 =>
  (some (t0 : D)).bind fun t3 =>
  (some (t0 : D)).bind fun t4 =>
  (dBin tab .neq ty3 t3 t4).bind fun t5 =>
  (some (t5 : D)).bind fun t2_1 =>
  ((some (t2_1 : D)).bind fun d => (some ([] : List D)).bind fun ds => some (d :: ds)).bind fun ds => some (mkRes ds, h)
theorem e99 (t0 : D) (h : Hp) : R fn99 [t0] h = F99 t0 h :=
  (run_fn (X := X) (F := Fs) (fi := i34) (by kernel_rfl) _ _).trans (by kernel_rfl)
noncomputable def F100 (t0 : D) (h : Hp) : Option (D × Hp) :=
  (some (.bool false : D)).bind fun t2 =>
  (some (t0 : D)).bind fun t3 =>
  (some (t0 : D)).bind fun t4 =>
  (dBin tab .neq ty9 t3 t4).bind fun t5 =>
  (some (t5 : D)).bind fun t2_1 =>
  ((some (t2_1 : D)).bind fun d => (some ([] : List D)).bind fun ds => some (d :: ds)).bind fun ds => some (mkRes ds, h)
theorem e100 (t0 : D) (h : Hp) : R fn100 [t0] h = F100 t0 h :=
  (run_fn (X := X) (F := Fs) (fi := i35) (by kernel_rfl) _ _).trans (by kernel_rfl)
noncomputable def F101 (t0 : D) (t1 : D) (h : Hp) : Option (D × Hp) :=
  (some (t0 : D)).bind fun t4 =>
  (some (t1 : D)).bind fun t5 =>
  (dSliceAt tab ty58 false true false [t4, t5]).bind fun t6 =>
  (R fn103 [t6] h).bind fun p7 =>
  (some (t0 : D)).bind fun t8 =>
  (some (t1 : D)).bind fun t9 =>
  (dSliceAt tab ty58 true false false [t8, t9]).bind fun t10 =>
  (R fn103 [t10] p7.2).bind fun p11 =>
  (some (t0 : D)).bind fun t12 =>
  (R fn103 [t12] p11.2).bind fun p13 =>
  (some ([] : List D)).bind fun ds => some (mkRes ds, p13.2)
theorem e101 (t0 : D) (t1 : D) (h : Hp) : R fn101 [t0, t1] h = F101 t0 t1 h :=
  (run_fn (X := X) (F := Fs) (fi := i36) (by kernel_rfl) _ _).trans (by kernel_rfl)
/-- a loop: slots 2 3 9 -/
noncomputable def F103_L0 (t0 : D) (ds : List D) (h_1 : Hp) : Option Out :=
    (some ((nth 0 ds) : D)).bind fun t7 =>
    (some ((nth 1 ds) : D)).bind fun t8 =>
    (dBin tab .lss ty3 t7 t8).bind fun t9 =>
    dIf t9
      ((some (t0 : D)).bind fun t14 =>
    (some ((nth 0 ds) : D)).bind fun t15 =>
    (some (t0 : D)).bind fun t16 =>
    (some ((nth 1 ds) : D)).bind fun t17 =>
    (some (t0 : D)).bind fun t18 =>
    (some ((nth 1 ds) : D)).bind fun t19 =>
    (dIndexAddr tab ty58 t18 t19).bind fun t20 =>
    (dLoad tab h_1 ty106 t20).bind fun t21 =>
    (some (t0 : D)).bind fun t22 =>
    (some ((nth 0 ds) : D)).bind fun t23 =>
    (dIndexAddr tab ty58 t22 t23).bind fun t24 =>
    (dLoad tab h_1 ty106 t24).bind fun t25 =>
    (dIndexAddr tab ty58 t14 t15).bind fun t26 =>
    ((dStore tab h_1 ty106 t26 t21).bind fun h' => some ((.und : D), h')).bind fun p913 =>
    (dIndexAddr tab ty58 t16 t17).bind fun t27 =>
    ((dStore tab p913.2 ty106 t27 t25).bind fun h' => some ((.und : D), h')).bind fun p915 =>
    (some ((nth 0 ds) : D)).bind fun t10 =>
    (dBin tab .add ty3 t10 (.int .i64 1)).bind fun t11 =>
    (some ((nth 1 ds) : D)).bind fun t12 =>
    (dBin tab .sub ty3 t12 (.int .i64 1)).bind fun t13 =>
    (some (t11 : D)).bind fun t2_1 =>
    (some (t13 : D)).bind fun t3_1 =>
    some (.nrm, [t2_1, t3_1, t9], p915.2))
      (some ((.ext 0), [(nth 0 ds), (nth 1 ds), t9], h_1))
noncomputable def F103 (t0 : D) (h : Hp) : Option (D × Hp) :=
  (some (t0 : D)).bind fun t4 =>
  (dLenT tab ty58 t4).bind fun t5 =>
  (dBin tab .sub ty3 t5 (.int .i64 1)).bind fun t6 =>
  (some (.int .i64 0 : D)).bind fun t2 =>
  (some (t6 : D)).bind fun t3 =>
  ((loopW (F103_L0 t0) [t2, t3, .any] h).bind fun r =>
    some ((unblk 0 r.1), [(nth 0 r.2.1), (nth 1 r.2.1), (nth 2 r.2.1)], r.2.2)).bind fun r_1 =>
  exEnd r_1.1 ((some ([] : List D)).bind fun ds => some (mkRes ds, r_1.2.2))
theorem e103 (t0 : D) (h : Hp) : R fn103 [t0] h = F103 t0 h :=
  (run_fn (X := X) (F := Fs) (fi := i37) (by kernel_rfl) _ _).trans (by kernel_rfl)
end Go.Proofs.Ytfjbbeleejnbgaa
