/- Functions as Lean functions on data. -/
import Derived.Test.YtjhmicmbbgkhpaaDoorC1
set_option linter.unusedSimpArgs false
set_option linter.unusedVariables false
set_option linter.unnecessarySimpa false
set_option maxRecDepth 100000
namespace Go.Proofs.YtjhmicmbbgkhpaaDoor
open Go.Eng Go.Pi
noncomputable def F1047 (t0 : D) (h : Hp) : Option (D × Hp) :=
  (pBoxF t0).bind fun t1 =>
  (some (.bool false : D)).bind fun t2 =>
  (dFieldAddr tab ty31 0 t1).bind fun t3 =>
  (dLoad tab h ty3 t3).bind fun t4 =>
  (R fn1051 [t4, .int .i64 0, .int .i64 999] h).bind fun p5 =>
  (some (p5.1 : D)).bind fun t6 =>
  (gd t6 true (dFieldAddr tab ty31 1 t1)).bind fun t7 =>
  (gd t6 true (dLoad tab p5.2 ty3 t7)).bind fun t8 =>
  (gdW t6 true p5.2 (R fn1051 [t8, .int .i64 0, .int .i64 2147483646] p5.2)).bind fun p9 =>
  (dPick t6 p9.1 (.bool false)).bind fun t10 =>
  (some (t10 : D)).bind fun t11 =>
  (gd t11 true (dFieldAddr tab ty31 2 t1)).bind fun t12 =>
  (gd t11 true (dLoad tab p9.2 ty3 t12)).bind fun t13 =>
  (gd t11 true (dBin tab .geq ty3 t13 (.int .i64 0))).bind fun t14 =>
  (dPick t11 t14 (.bool false)).bind fun t15 =>
  (some (t15 : D)).bind fun t16 =>
  (gd t16 true (dFieldAddr tab ty31 3 t1)).bind fun t17 =>
  (gd t16 true (dLoad tab p9.2 ty3 t17)).bind fun t18 =>
  (gd t16 true (dFieldAddr tab ty31 2 t1)).bind fun t19 =>
  (gd t16 true (dLoad tab p9.2 ty3 t19)).bind fun t20 =>
  (gd t16 true (dBin tab .gtr ty3 t18 t20)).bind fun t21 =>
  (dPick t16 t21 (.bool false)).bind fun t22 =>
  (some (t22 : D)).bind fun t23 =>
  (gd t23 true (dFieldAddr tab ty31 3 t1)).bind fun t24 =>
  (gd t23 true (dLoad tab p9.2 ty3 t24)).bind fun t25 =>
  (gd t23 true (dBin tab .leq ty3 t25 (.int .i64 60000))).bind fun t26 =>
  (dPick t23 t26 (.bool false)).bind fun t27 =>
  (some (t27 : D)).bind fun t2_1 =>
  ((some (t2_1 : D)).bind fun d => (some ([] : List D)).bind fun ds => some (d :: ds)).bind fun ds => some (mkRes ds, p9.2)
theorem e1047 (t0 : D) (h : Hp) : R fn1047 [t0] h = F1047 t0 h :=
  (run_fn (X := X) (F := Fs) (fi := i47) (by kernel_rfl) _ _).trans (by kernel_rfl)
/-- a loop: slots 4 5 6 7 8 24 25 64 69 -/
noncomputable def F1048_L0 (t1 : D) (t2 : D) (t22 : D) (t23 : D) (ds : List D) (h_1 : Hp) : Option Out :=
    (dBin tab .lss ty3 (nth 5 ds) t23).bind fun t25 =>
    dIf t25
      ((some ((nth 5 ds) : D)).bind fun t26 =>
    (dIndexAddr tab ty28 t22 (nth 5 ds)).bind fun t27 =>
    (dLoad tab h_1 ty78 t27).bind fun t28 =>
    (some ((.ptr h_1.length 0 0 : D), dNew h_1 ty78 3 [[.int .i64 0, .int .i64 0, .str []]])).bind fun p7 =>
    (some (t26 : D)).bind fun t6 =>
    ((dStore tab p7.2 ty78 p7.1 t28).bind fun h' => some ((.und : D), h')).bind fun p905 =>
    (some (t6 : D)).bind fun t29 =>
    (dFieldAddr tab ty31 4 t2).bind fun t30 =>
    (dLoad tab p905.2 ty28 t30).bind fun t31 =>
    (dLenT tab ty28 t31).bind fun t32 =>
    (dBin tab .sub ty3 t32 (.int .i64 1)).bind fun t33 =>
    (dBin tab .eql ty3 t29 t33).bind fun t34 =>
    (some (t34 : D)).bind fun t8 =>
    (dFieldAddr tab ty78 0 p7.1).bind fun t35 =>
    (dLoad tab p905.2 ty3 t35).bind fun t36 =>
    (some ((nth 1 ds) : D)).bind fun t37 =>
    (dBin tab .neq ty3 t36 t37).bind fun t38 =>
    (some (t38 : D)).bind fun t39 =>
    (gd t39 false (dFieldAddr tab ty78 1 p7.1)).bind fun t40 =>
    (gd t39 false (dLoad tab p905.2 ty3 t40)).bind fun t41 =>
    (gd t39 false (dBin tab .lss ty3 t41 (.int .i64 1))).bind fun t42 =>
    (dPick t39 (.bool true) t42).bind fun t43 =>
    (some (t43 : D)).bind fun t44 =>
    (gd t44 false (dFieldAddr tab ty78 1 p7.1)).bind fun t45 =>
    (gd t44 false (dLoad tab p905.2 ty3 t45)).bind fun t46 =>
    (gd t44 false (dFieldAddr tab ty31 3 t2)).bind fun t47 =>
    (gd t44 false (dLoad tab p905.2 ty3 t47)).bind fun t48 =>
    (gd t44 false (some ((nth 1 ds) : D))).bind fun t49 =>
    (gd t44 false (dBin tab .sub ty3 t48 t49)).bind fun t50 =>
    (gd t44 false (dBin tab .gtr ty3 t46 t50)).bind fun t51 =>
    (dPick t44 (.bool true) t51).bind fun t52 =>
    (some (t52 : D)).bind fun t53 =>
    (gd t53 false (some (t8 : D))).bind fun t54 =>
    (gd t53 false (some (t54 : D))).bind fun t55 =>
    (gd t55 true (dFieldAddr tab ty78 1 p7.1)).bind fun t56 =>
    (gd t55 true (dLoad tab p905.2 ty3 t56)).bind fun t57 =>
    (gd t55 true (dFieldAddr tab ty31 3 t2)).bind fun t58 =>
    (gd t55 true (dLoad tab p905.2 ty3 t58)).bind fun t59 =>
    (gd t55 true (some ((nth 1 ds) : D))).bind fun t60 =>
    (gd t55 true (dBin tab .sub ty3 t59 t60)).bind fun t61 =>
    (gd t55 true (dBin tab .lss ty3 t57 t61)).bind fun t62 =>
    (gd t53 false (dPick t55 t62 (.bool false))).bind fun t63 =>
    (dPick t53 (.bool true) t63).bind fun t64 =>
    dIf t64
      ((some (.int .i64 19 : D)).bind fun t4_3 =>
      some (.ret, [t4_3, (nth 1 ds), t6, p7.1, t8, (nth 5 ds), t25, t64, (nth 8 ds)], p905.2))
      ((dFieldAddr tab ty78 2 p7.1).bind fun t65 =>
    (dLoad tab p905.2 ty9 t65).bind fun t66 =>
    (dLenT tab ty9 t66).bind fun t67 =>
    (some (t1 : D)).bind fun t68 =>
    (dBin tab .gtr ty3 t67 t68).bind fun t69 =>
    dIf t69
      ((some (.int .i64 3 : D)).bind fun t4_4 =>
      some (.ret, [t4_4, (nth 1 ds), t6, p7.1, t8, (nth 5 ds), t25, t64, t69], p905.2))
      ((some ((nth 1 ds) : D)).bind fun t70 =>
    (dFieldAddr tab ty78 1 p7.1).bind fun t71 =>
    (dLoad tab p905.2 ty3 t71).bind fun t72 =>
    (dBin tab .add ty3 t70 t72).bind fun t73 =>
    (some (t73 : D)).bind fun t5_1 =>
    (dBin tab .add ty3 (nth 5 ds) (.int .i64 1)).bind fun t74 =>
    (some (t74 : D)).bind fun t24_1 =>
    some (.nrm, [(nth 0 ds), t5_1, t6, p7.1, t8, t24_1, t25, t64, t69], p905.2))))
      (some ((.ext 1), [(nth 0 ds), (nth 1 ds), (nth 2 ds), (nth 3 ds), (nth 4 ds), (nth 5 ds), t25, (nth 7 ds), (nth 8 ds)], h_1))
noncomputable def F1048 (t0 : D) (t1 : D) (h : Hp) : Option (D × Hp) :=
  (pBoxF t0).bind fun t2 =>
  (some (.int .i64 0 : D)).bind fun t4 =>
  (dFieldAddr tab ty31 4 t2).bind fun t10 =>
  (dLoad tab h ty28 t10).bind fun t11 =>
  (dLenT tab ty28 t11).bind fun t12 =>
  (dBin tab .eql ty3 t12 (.int .i64 0)).bind fun t13 =>
  (some (t13 : D)).bind fun t9 =>
  dIf t9
    ((some (.int .i64 9 : D)).bind fun t4_1 =>
    ((some (t4_1 : D)).bind fun d => (some ([] : List D)).bind fun ds => some (d :: ds)).bind fun ds => scope h h (mkRes ds))
    ((dFieldAddr tab ty31 4 t2).bind fun t15 =>
    (dLoad tab h ty28 t15).bind fun t16 =>
    (dLenT tab ty28 t16).bind fun t17 =>
    (dBin tab .gtr ty3 t17 (.int .i64 40)).bind fun t18 =>
    (some (t18 : D)).bind fun t14 =>
    dIf t14
      ((some (.int .i64 4 : D)).bind fun t4_2 =>
      ((some (t4_2 : D)).bind fun d => (some ([] : List D)).bind fun ds => some (d :: ds)).bind fun ds => scope h h (mkRes ds))
      ((dFieldAddr tab ty31 2 t2).bind fun t19 =>
  (dLoad tab h ty3 t19).bind fun t20 =>
  (some (t20 : D)).bind fun t5 =>
  (dFieldAddr tab ty31 4 t2).bind fun t21 =>
  (dLoad tab h ty28 t21).bind fun t22 =>
  (dLenT tab ty28 t22).bind fun t23 =>
  (some (.int .i64 0 : D)).bind fun t24 =>
  ((loopW (F1048_L0 t1 t2 t22 t23) [t4, t5, .any, .any, .any, t24, .any, .any, .any] h).bind fun r =>
    some ((unblk 1 r.1), [(nth 0 r.2.1), (nth 1 r.2.1), (nth 2 r.2.1), (nth 3 r.2.1), (nth 4 r.2.1), (nth 5 r.2.1), (nth 6 r.2.1), (nth 7 r.2.1), (nth 8 r.2.1)], r.2.2)).bind fun r_1 =>
  toEnd r_1.1 ((some (.int .i64 0 : D)).bind fun t4_5 =>
  ((some (t4_5 : D)).bind fun d => (some ([] : List D)).bind fun ds => some (d :: ds)).bind fun ds => scope h r_1.2.2 (mkRes ds)) fun x => exEnd x (((some ((nth 0 r_1.2.1) : D)).bind fun d => (some ([] : List D)).bind fun ds => some (d :: ds)).bind fun ds => scope h r_1.2.2 (mkRes ds))))
theorem e1048 (t0 : D) (t1 : D) (h : Hp) : R fn1048 [t0, t1] h = F1048 t0 t1 h :=
  (run_fn (X := X) (F := Fs) (fi := i48) (by kernel_rfl) _ _).trans (by kernel_rfl)
noncomputable def F1049 (t0 : D) (t1 : D) (h : Hp) : Option (D × Hp) :=
  (some (.bool false : D)).bind fun t4 =>
  (some (t0 : D)).bind fun t5 =>
  (some (t1 : D)).bind fun t6 =>
  (R fn1006 [t5, t6] h).bind fun p7 =>
  (dBin tab .geq ty3 p7.1 (.int .i64 0)).bind fun t8 =>
  (some (t8 : D)).bind fun t4_1 =>
  ((some (t4_1 : D)).bind fun d => (some ([] : List D)).bind fun ds => some (d :: ds)).bind fun ds => some (mkRes ds, p7.2)
theorem e1049 (t0 : D) (t1 : D) (h : Hp) : R fn1049 [t0, t1] h = F1049 t0 t1 h :=
  (run_fn (X := X) (F := Fs) (fi := i49) (by kernel_rfl) _ _).trans (by kernel_rfl)
noncomputable def F1050 (t0 : D) (h : Hp) : Option (D × Hp) :=
  (pBoxF t0).bind fun t1 =>
  (some (.bool false : D)).bind fun t2 =>
  (dFieldAddr tab ty78 2 t1).bind fun t3 =>
  (dLoad tab h ty9 t3).bind fun t4 =>
  (dBin tab .neq ty9 t4 (.str [])).bind fun t5 =>
  (some (t5 : D)).bind fun t2_1 =>
  ((some (t2_1 : D)).bind fun d => (some ([] : List D)).bind fun ds => some (d :: ds)).bind fun ds => some (mkRes ds, h)
theorem e1050 (t0 : D) (h : Hp) : R fn1050 [t0] h = F1050 t0 h :=
  (run_fn (X := X) (F := Fs) (fi := i50) (by kernel_rfl) _ _).trans (by kernel_rfl)
/-- a loop: slots 3 4 10 -/
noncomputable def F96_L0 (t0 : D) (ds : List D) (h_1 : Hp) : Option Out :=
    (some ((nth 1 ds) : D)).bind fun t9 =>
    (dBin tab .gtr ty3 t9 (.int .i64 0)).bind fun t10 =>
    dIf t10
      ((some ((nth 0 ds) : D)).bind fun t13 =>
    (pLitF tab ty98 5 [0, 1, 2, 3, 4] [.str [32], .str [32], .str [44, 32], .str [61], .str []]).bind fun t14 =>
    (some (t0 : D)).bind fun t15 =>
    (R fn24 [t15, .int .i64 5] h_1).bind fun p16 =>
    (dIndexAddr tab ty98 t14 p16.1).bind fun t17 =>
    (dLoad tab p16.2 ty9 t17).bind fun t18 =>
    (some (t0 : D)).bind fun t19 =>
    (R fn102 [t19] p16.2).bind fun p20 =>
    (dBin tab .add ty9 t18 p20.1).bind fun t21 =>
    (dBin tab .add ty9 t13 t21).bind fun t22 =>
    chk (dLoad tab p20.2 ty9 t17 = some t18)
    ((some (t22 : D)).bind fun t3_1 =>
    (some ((nth 1 ds) : D)).bind fun t11 =>
    (dBin tab .sub ty3 t11 (.int .i64 1)).bind fun t12 =>
    (some (t12 : D)).bind fun t4_1 =>
    some (.nrm, [t3_1, t4_1, t10], p20.2)))
      (some ((.ext 0), [(nth 0 ds), (nth 1 ds), t10], h_1))
noncomputable def F96 (t0 : D) (h : Hp) : Option (D × Hp) :=
  (some (.str [] : D)).bind fun t2 =>
  (some (t0 : D)).bind fun t5 =>
  (R fn102 [t5] h).bind fun p6 =>
  (some (p6.1 : D)).bind fun t3 =>
  (some (t0 : D)).bind fun t7 =>
  (R fn24 [t7, .int .i64 4] p6.2).bind fun p8 =>
  (some (p8.1 : D)).bind fun t4 =>
  ((loopW (F96_L0 t0) [t3, t4, .any] p8.2).bind fun r =>
    some ((unblk 0 r.1), [(nth 0 r.2.1), (nth 1 r.2.1), (nth 2 r.2.1)], r.2.2)).bind fun r_1 =>
  toEnd r_1.1 ((some ((nth 0 r_1.2.1) : D)).bind fun t23 =>
  (some (t23 : D)).bind fun t2_1 =>
  ((some (t2_1 : D)).bind fun d => (some ([] : List D)).bind fun ds => some (d :: ds)).bind fun ds => some (mkRes ds, r_1.2.2)) fun x => exEnd x (((some (t2 : D)).bind fun d => (some ([] : List D)).bind fun ds => some (d :: ds)).bind fun ds => some (mkRes ds, r_1.2.2))
theorem e96 (t0 : D) (h : Hp) : R fn96 [t0] h = F96 t0 h :=
  (run_fn (X := X) (F := Fs) (fi := i51) (by kernel_rfl) _ _).trans (by kernel_rfl)
noncomputable def F35 (t0 : D) (h : Hp) : Option (D × Hp) :=
  (some (.int .i64 0 : D)).bind fun t2 =>
  (some (t0 : D)).bind fun t3 =>
  (R fn24 [t3, .int .i64 4] h).bind fun p4 =>
  (dBin tab .eql ty3 p4.1 (.int .i64 0)).bind fun t6 =>
  (some (t6 : D)).bind fun t5 =>
  dIf t5
    ((some (t0 : D)).bind fun t7 =>
    (R fn24 [t7, .int .i64 40] p4.2).bind fun p8 =>
    (dBin tab .mul ty3 p8.1 (.int .i64 86400000)).bind fun t9 =>
    (some (t9 : D)).bind fun t2_1 =>
    ((some (t2_1 : D)).bind fun d => (some ([] : List D)).bind fun ds => some (d :: ds)).bind fun ds => some (mkRes ds, p8.2))
    ((dBin tab .eql ty3 p4.1 (.int .i64 1)).bind fun t11 =>
    (some (t11 : D)).bind fun t10 =>
    dIf t10
      ((some (t0 : D)).bind fun t12 =>
      (R fn24 [t12, .int .i64 3] p4.2).bind fun p13 =>
      (dBin tab .mul ty3 p13.1 (.int .i64 86400000)).bind fun t14 =>
      (dBin tab .sub ty3 (.int .i64 253402300799999) t14).bind fun t15 =>
      (some (t15 : D)).bind fun t2_2 =>
      ((some (t2_2 : D)).bind fun d => (some ([] : List D)).bind fun ds => some (d :: ds)).bind fun ds => some (mkRes ds, p13.2))
      ((some (t0 : D)).bind fun t16 =>
  (R fn24 [t16, .int .i64 60] p4.2).bind fun p17 =>
  (dBin tab .add ty3 (.int .i64 1000) p17.1).bind fun t18 =>
  (some (t18 : D)).bind fun t2_3 =>
  ((some (t2_3 : D)).bind fun d => (some ([] : List D)).bind fun ds => some (d :: ds)).bind fun ds => some (mkRes ds, p17.2)))
theorem e35 (t0 : D) (h : Hp) : R fn35 [t0] h = F35 t0 h :=
  (run_fn (X := X) (F := Fs) (fi := i52) (by kernel_rfl) _ _).trans (by kernel_rfl)
noncomputable def F97 (t0 : D) (h : Hp) : Option (D × Hp) :=
  (some (.int .i64 0 : D)).bind fun t2 =>
  (pLitF tab ty82 6 [0, 1, 2, 3, 4, 5] [.int .i64 1, .int .i64 1, .int .i64 2, .int .i64 5, .int .i64 10, .int .i64 5040]).bind fun t3 =>
  (some (t0 : D)).bind fun t4 =>
  (R fn24 [t4, .int .i64 6] h).bind fun p5 =>
  (dIndexAddr tab ty82 t3 p5.1).bind fun t6 =>
  (dLoad tab p5.2 ty3 t6).bind fun t7 =>
  (some (t7 : D)).bind fun t2_1 =>
  ((some (t2_1 : D)).bind fun d => (some ([] : List D)).bind fun ds => some (d :: ds)).bind fun ds => some (mkRes ds, p5.2)
theorem e97 (t0 : D) (h : Hp) : R fn97 [t0] h = F97 t0 h :=
  (run_fn (X := X) (F := Fs) (fi := i53) (by kernel_rfl) _ _).trans (by kernel_rfl)
/-- a loop: slots 3 5 10 15 -/
noncomputable def F98_L0 (t0 : D) (t4 : D) (ds : List D) (h_1 : Hp) : Option Out :=
    (some ((nth 1 ds) : D)).bind fun t7 =>
    (some (t4 : D)).bind fun t8 =>
    (dLenT tab ty98 t8).bind fun t9 =>
    (dBin tab .lss ty3 t7 t9).bind fun t10 =>
    dIf t10
      ((some (t0 : D)).bind fun t13 =>
    (R fn24 [t13, .int .i64 3] h_1).bind fun p14 =>
    (dBin tab .eql ty3 p14.1 (.int .i64 1)).bind fun t15 =>
    (dIf t15
      ((some ((nth 0 ds) : D)).bind fun t16 =>
      (some (t4 : D)).bind fun t17 =>
      (some ((nth 1 ds) : D)).bind fun t18 =>
      (dIndexAddr tab ty98 t17 t18).bind fun t19 =>
      (dLoad tab p14.2 ty9 t19).bind fun t20 =>
      (some (t0 : D)).bind fun t21 =>
      (R fn33 [t21] p14.2).bind fun p22 =>
      (dBuild tab ty109 [0, 1] [t20, p22.1]).bind fun t23 =>
      (pLitF tab ty29 1 [0] [t23]).bind fun t24 =>
      (dAppend tab p22.2 ty29 ty29 t16 t24).bind fun p25 =>
      chk (dLoad tab p22.2 ty9 t19 = some t20)
      ((some (p25.1 : D)).bind fun t3_1 =>
      some (.nrm, [t3_1], p25.2)))
      (some (.nrm, [(nth 0 ds)], p14.2))).bind fun r_1 =>
    toEnd (unblk 1 r_1.1) ((some ((nth 1 ds) : D)).bind fun t11 =>
    (dBin tab .add ty3 t11 (.int .i64 1)).bind fun t12 =>
    (some (t12 : D)).bind fun t5_1 =>
    some (.nrm, [(nth 0 r_1.2.1), t5_1, t10, t15], r_1.2.2)) fun x => some (x, [(nth 0 r_1.2.1), (nth 1 ds), t10, t15], r_1.2.2))
      (some ((.ext 0), [(nth 0 ds), (nth 1 ds), t10, (nth 3 ds)], h_1))
noncomputable def F98 (t0 : D) (h : Hp) : Option (D × Hp) :=
  (some (.nils : D)).bind fun t2 =>
  (some (.nils : D)).bind fun t3 =>
  (pLitF tab ty98 4 [0, 1, 2, 3] [.str [99, 111, 100, 101], .str [108, 101, 118, 101, 108], .str [109, 115], .str [117, 115, 101, 114]]).bind fun t6 =>
  (some (t6 : D)).bind fun t4 =>
  (some (.int .i64 0 : D)).bind fun t5 =>
  ((loopW (F98_L0 t0 t4) [t3, t5, .any, .any] h).bind fun r =>
    some ((unblk 0 r.1), [(nth 0 r.2.1), (nth 1 r.2.1), (nth 2 r.2.1), (nth 3 r.2.1)], r.2.2)).bind fun r_2 =>
  toEnd r_2.1 ((some ((nth 0 r_2.2.1) : D)).bind fun t26 =>
  (some (t26 : D)).bind fun t2_1 =>
  ((some (t2_1 : D)).bind fun d => (some ([] : List D)).bind fun ds => some (d :: ds)).bind fun ds => scope h r_2.2.2 (mkRes ds)) fun x_1 => exEnd x_1 (((some (t2 : D)).bind fun d => (some ([] : List D)).bind fun ds => some (d :: ds)).bind fun ds => scope h r_2.2.2 (mkRes ds))
theorem e98 (t0 : D) (h : Hp) : R fn98 [t0] h = F98 t0 h :=
  (run_fn (X := X) (F := Fs) (fi := i54) (by kernel_rfl) _ _).trans (by kernel_rfl)
/-- a loop: slots 2 6 61 70 -/
noncomputable def F1004_L0 (t3 : D) (ds : List D) (h_1 : Hp) : Option Out :=
    (some ((nth 1 ds) : D)).bind fun t57 =>
    (dFieldAddr tab ty31 4 t3).bind fun t58 =>
    (dLoad tab h_1 ty28 t58).bind fun t59 =>
    (dLenT tab ty28 t59).bind fun t60 =>
    (dBin tab .lss ty3 t57 t60).bind fun t61 =>
    dIf t61
      ((dFieldAddr tab ty31 4 t3).bind fun t64 =>
    (dLoad tab h_1 ty28 t64).bind fun t65 =>
    (some ((nth 1 ds) : D)).bind fun t66 =>
    (dIndexAddr tab ty28 t65 t66).bind fun t67 =>
    (dFieldAddr tab ty78 2 t67).bind fun t68 =>
    (dLoad tab h_1 ty9 t68).bind fun t69 =>
    (dBin tab .neq ty9 t69 (.str [])).bind fun t70 =>
    dIf t70
      ((some (.int .i64 19 : D)).bind fun t2_6 =>
      some (.ret, [t2_6, (nth 1 ds), t61, t70], h_1))
      ((some ((nth 1 ds) : D)).bind fun t62 =>
    (dBin tab .add ty3 t62 (.int .i64 1)).bind fun t63 =>
    (some (t63 : D)).bind fun t6_1 =>
    some (.nrm, [(nth 0 ds), t6_1, t61, t70], h_1)))
      (some ((.ext 0), [(nth 0 ds), (nth 1 ds), t61, (nth 3 ds)], h_1))
noncomputable def F1004 (t0 : D) (h : Hp) : Option (D × Hp) :=
  (pBoxF t0).bind fun t1 =>
  (some (.int .i64 0 : D)).bind fun t2 =>
  (dFieldAddr tab ty74 0 t1).bind fun t7 =>
  (dLoad tab h ty9 t7).bind fun t8 =>
  (dBin tab .eql ty9 t8 (.str [])).bind fun t9 =>
  dIf t9
    ((dFieldAddr tab ty74 1 t1).bind fun t10 =>
    (dLoad tab h ty31 t10).bind fun t11 =>
    (R fn1010 [t11] h).bind fun p12 =>
    (some (p12.1 : D)).bind fun t2_1 =>
    ((some (t2_1 : D)).bind fun d => (some ([] : List D)).bind fun ds => some (d :: ds)).bind fun ds => some (mkRes ds, p12.2))
    ((dFieldAddr tab ty74 0 t1).bind fun t13 =>
  (dLoad tab h ty9 t13).bind fun t14 =>
  (dLenT tab ty9 t14).bind fun t15 =>
  (dBin tab .gtr ty3 t15 (.int .i64 32)).bind fun t16 =>
  dIf t16
    ((some (.int .i64 3 : D)).bind fun t2_2 =>
    ((some (t2_2 : D)).bind fun d => (some ([] : List D)).bind fun ds => some (d :: ds)).bind fun ds => some (mkRes ds, h))
    ((dFieldAddr tab ty74 1 t1).bind fun t17 =>
  (dLoad tab h ty31 t17).bind fun t18 =>
  (boxN 10 t18).bind fun t3 =>
  (dLoad tab h ty31 t3).bind fun t19 =>
  (R fn1011 [t19] h).bind fun p20 =>
  (some (p20.1 : D)).bind fun t4 =>
  (some (t4 : D)).bind fun t21 =>
  (dBin tab .neq ty49 t21 (.int .i64 0)).bind fun t22 =>
  dIf t22
    ((some (t4 : D)).bind fun t23 =>
    (some (t23 : D)).bind fun t2_3 =>
    ((some (t2_3 : D)).bind fun d => (some ([] : List D)).bind fun ds => some (d :: ds)).bind fun ds => some (mkRes ds, p20.2))
    ((dLoad tab p20.2 ty31 t3).bind fun t24 =>
  (R fn1012 [t24, .int .i64 20000] p20.2).bind fun p25 =>
  (some (p25.1 : D)).bind fun t5 =>
  (some (t5 : D)).bind fun t26 =>
  (dBin tab .neq ty49 t26 (.int .i64 0)).bind fun t27 =>
  (some (t27 : D)).bind fun t28 =>
  (gd t28 true (some (t5 : D))).bind fun t29 =>
  (gd t28 true (dBin tab .neq ty49 t29 (.int .i64 3))).bind fun t30 =>
  (dPick t28 t30 (.bool false)).bind fun t31 =>
  dIf t31
    ((some (t5 : D)).bind fun t32 =>
    (some (t32 : D)).bind fun t2_4 =>
    ((some (t2_4 : D)).bind fun d => (some ([] : List D)).bind fun ds => some (d :: ds)).bind fun ds => some (mkRes ds, p25.2))
    ((dFieldAddr tab ty31 5 t3).bind fun t33 =>
  (dLoad tab p25.2 ty3 t33).bind fun t34 =>
  (dBin tab .neq ty3 t34 (.int .i64 0)).bind fun t35 =>
  (some (t35 : D)).bind fun t36 =>
  (gd t36 false (dFieldAddr tab ty31 6 t3)).bind fun t37 =>
  (gd t36 false (dLoad tab p25.2 ty3 t37)).bind fun t38 =>
  (gd t36 false (dBin tab .neq ty3 t38 (.int .i64 0))).bind fun t39 =>
  (dPick t36 (.bool true) t39).bind fun t40 =>
  (some (t40 : D)).bind fun t41 =>
  (gd t41 false (dFieldAddr tab ty31 7 t3)).bind fun t42 =>
  (gd t41 false (dLoad tab p25.2 ty9 t42)).bind fun t43 =>
  (gd t41 false (dBin tab .neq ty9 t43 (.str []))).bind fun t44 =>
  (dPick t41 (.bool true) t44).bind fun t45 =>
  (some (t45 : D)).bind fun t46 =>
  (gd t46 false (dFieldAddr tab ty31 8 t3)).bind fun t47 =>
  (gd t46 false (dLoad tab p25.2 ty9 t47)).bind fun t48 =>
  (gd t46 false (dBin tab .neq ty9 t48 (.str []))).bind fun t49 =>
  (dPick t46 (.bool true) t49).bind fun t50 =>
  (some (t50 : D)).bind fun t51 =>
  (gd t51 false (dFieldAddr tab ty31 9 t3)).bind fun t52 =>
  (gd t51 false (dLoad tab p25.2 ty29 t52)).bind fun t53 =>
  (gd t51 false (dLenT tab ty29 t53)).bind fun t54 =>
  (gd t51 false (dBin tab .neq ty3 t54 (.int .i64 0))).bind fun t55 =>
  (dPick t51 (.bool true) t55).bind fun t56 =>
  dIf t56
    ((some (.int .i64 19 : D)).bind fun t2_5 =>
    ((some (t2_5 : D)).bind fun d => (some ([] : List D)).bind fun ds => some (d :: ds)).bind fun ds => some (mkRes ds, p25.2))
    ((some (.int .i64 0 : D)).bind fun t6 =>
  ((loopW (F1004_L0 t3) [t2, t6, .any, .any] p25.2).bind fun r =>
    some ((unblk 0 r.1), [(nth 0 r.2.1), (nth 1 r.2.1), (nth 2 r.2.1), (nth 3 r.2.1)], r.2.2)).bind fun r_1 =>
  toEnd r_1.1 ((some (.int .i64 0 : D)).bind fun t2_7 =>
  ((some (t2_7 : D)).bind fun d => (some ([] : List D)).bind fun ds => some (d :: ds)).bind fun ds => some (mkRes ds, r_1.2.2)) fun x => exEnd x (((some ((nth 0 r_1.2.1) : D)).bind fun d => (some ([] : List D)).bind fun ds => some (d :: ds)).bind fun ds => some (mkRes ds, r_1.2.2)))))))
theorem e1004 (t0 : D) (h : Hp) : R fn1004 [t0] h = F1004 t0 h :=
  (run_fn (X := X) (F := Fs) (fi := i55) (by kernel_rfl) _ _).trans (by kernel_rfl)
/-- a loop: slots 4 5 35 -/
noncomputable def F1115_L0 (t3 : D) (ds : List D) (h_1 : Hp) : Option Out :=
    (some ((nth 1 ds) : D)).bind fun t31 =>
    (dFieldAddr tab ty31 4 t3).bind fun t32 =>
    (dLoad tab h_1 ty28 t32).bind fun t33 =>
    (dLenT tab ty28 t33).bind fun t34 =>
    (dBin tab .lss ty3 t31 t34).bind fun t35 =>
    dIf t35
      ((some ((nth 0 ds) : D)).bind fun t38 =>
    (dFieldAddr tab ty31 4 t3).bind fun t39 =>
    (dLoad tab h_1 ty28 t39).bind fun t40 =>
    (some ((nth 1 ds) : D)).bind fun t41 =>
    (dIndexAddr tab ty28 t40 t41).bind fun t42 =>
    (dFieldAddr tab ty78 0 t42).bind fun t43 =>
    (dLoad tab h_1 ty3 t43).bind fun t44 =>
    (R fn1119 [t38, t44] h_1).bind fun p45 =>
    (dFieldAddr tab ty31 4 t3).bind fun t46 =>
    (dLoad tab p45.2 ty28 t46).bind fun t47 =>
    (some ((nth 1 ds) : D)).bind fun t48 =>
    (dIndexAddr tab ty28 t47 t48).bind fun t49 =>
    (dFieldAddr tab ty78 1 t49).bind fun t50 =>
    (dLoad tab p45.2 ty3 t50).bind fun t51 =>
    (R fn1119 [p45.1, t51] p45.2).bind fun p52 =>
    (dFieldAddr tab ty31 4 t3).bind fun t53 =>
    (dLoad tab p52.2 ty28 t53).bind fun t54 =>
    (some ((nth 1 ds) : D)).bind fun t55 =>
    (dIndexAddr tab ty28 t54 t55).bind fun t56 =>
    (dFieldAddr tab ty78 2 t56).bind fun t57 =>
    (dLoad tab p52.2 ty9 t57).bind fun t58 =>
    (R fn1118 [p52.1, t58] p52.2).bind fun p59 =>
    chk (dLoad tab h_1 ty28 t46 = some t47)
    (chk (dLoad tab h_1 ty3 t50 = some t51)
    (chk (dLoad tab h_1 ty28 t53 = some t54)
    (chk (dLoad tab p45.2 ty28 t53 = some t54)
    (chk (dLoad tab h_1 ty9 t57 = some t58)
    (chk (dLoad tab p45.2 ty9 t57 = some t58)
    ((some (p59.1 : D)).bind fun t4_3 =>
    (some ((nth 1 ds) : D)).bind fun t36 =>
    (dBin tab .add ty3 t36 (.int .i64 1)).bind fun t37 =>
    (some (t37 : D)).bind fun t5_1 =>
    some (.nrm, [t4_3, t5_1, t35], p59.2))))))))
      (some ((.ext 0), [(nth 0 ds), (nth 1 ds), t35], h_1))
/-- a loop: slots 4 6 83 -/
noncomputable def F1115_L1 (t3 : D) (ds_1 : List D) (h_2 : Hp) : Option Out :=
    (some ((nth 1 ds_1) : D)).bind fun t79 =>
    (dFieldAddr tab ty31 9 t3).bind fun t80 =>
    (dLoad tab h_2 ty29 t80).bind fun t81 =>
    (dLenT tab ty29 t81).bind fun t82 =>
    (dBin tab .lss ty3 t79 t82).bind fun t83 =>
    dIf t83
      ((some ((nth 0 ds_1) : D)).bind fun t86 =>
    (dFieldAddr tab ty31 9 t3).bind fun t87 =>
    (dLoad tab h_2 ty29 t87).bind fun t88 =>
    (some ((nth 1 ds_1) : D)).bind fun t89 =>
    (dIndexAddr tab ty29 t88 t89).bind fun t90 =>
    (dFieldAddr tab ty109 0 t90).bind fun t91 =>
    (dLoad tab h_2 ty9 t91).bind fun t92 =>
    (R fn1118 [t86, t92] h_2).bind fun p93 =>
    (dFieldAddr tab ty31 9 t3).bind fun t94 =>
    (dLoad tab p93.2 ty29 t94).bind fun t95 =>
    (some ((nth 1 ds_1) : D)).bind fun t96 =>
    (dIndexAddr tab ty29 t95 t96).bind fun t97 =>
    (dFieldAddr tab ty109 1 t97).bind fun t98 =>
    (dLoad tab p93.2 ty9 t98).bind fun t99 =>
    (R fn1118 [p93.1, t99] p93.2).bind fun p100 =>
    chk (dLoad tab h_2 ty29 t94 = some t95)
    (chk (dLoad tab h_2 ty9 t98 = some t99)
    ((some (p100.1 : D)).bind fun t4_6 =>
    (some ((nth 1 ds_1) : D)).bind fun t84 =>
    (dBin tab .add ty3 t84 (.int .i64 1)).bind fun t85 =>
    (some (t85 : D)).bind fun t6_1 =>
    some (.nrm, [t4_6, t6_1, t83], p100.2))))
      (some ((.ext 2), [(nth 0 ds_1), (nth 1 ds_1), t83], h_2))
noncomputable def F1115 (t0 : D) (h : Hp) : Option (D × Hp) :=
  (pBoxF t0).bind fun t1 =>
  (some (.nils : D)).bind fun t2 =>
  (dFieldAddr tab ty74 1 t1).bind fun t7 =>
  (dLoad tab h ty31 t7).bind fun t8 =>
  (boxN 10 t8).bind fun t3 =>
  (dFieldAddr tab ty74 0 t1).bind fun t9 =>
  (dLoad tab h ty9 t9).bind fun t10 =>
  (R fn1118 [.nils, t10] h).bind fun p11 =>
  (some (p11.1 : D)).bind fun t4 =>
  (some (t4 : D)).bind fun t12 =>
  (dFieldAddr tab ty31 0 t3).bind fun t13 =>
  (dLoad tab p11.2 ty3 t13).bind fun t14 =>
  (R fn1119 [t12, t14] p11.2).bind fun p15 =>
  (dFieldAddr tab ty31 1 t3).bind fun t16 =>
  (dLoad tab p15.2 ty3 t16).bind fun t17 =>
  (R fn1119 [p15.1, t17] p15.2).bind fun p18 =>
  (dFieldAddr tab ty31 2 t3).bind fun t19 =>
  (dLoad tab p18.2 ty3 t19).bind fun t20 =>
  (R fn1119 [p18.1, t20] p18.2).bind fun p21 =>
  (dFieldAddr tab ty31 3 t3).bind fun t22 =>
  (dLoad tab p21.2 ty3 t22).bind fun t23 =>
  (R fn1119 [p21.1, t23] p21.2).bind fun p24 =>
  chk (dLoad tab p11.2 ty3 t16 = some t17)
  (chk (dLoad tab p11.2 ty3 t19 = some t20)
  (chk (dLoad tab p15.2 ty3 t19 = some t20)
  (chk (dLoad tab p11.2 ty3 t22 = some t23)
  (chk (dLoad tab p15.2 ty3 t22 = some t23)
  (chk (dLoad tab p18.2 ty3 t22 = some t23)
  ((some (p24.1 : D)).bind fun t4_1 =>
  (some (t4_1 : D)).bind fun t25 =>
  (dFieldAddr tab ty31 4 t3).bind fun t26 =>
  (dLoad tab p24.2 ty28 t26).bind fun t27 =>
  (dLenT tab ty28 t27).bind fun t28 =>
  (dConv tab ty3 ty1029 t28).bind fun t29 =>
  (R fn1116 [t25, t29, .int .i64 4] p24.2).bind fun p30 =>
  (some (p30.1 : D)).bind fun t4_2 =>
  (some (.int .i64 0 : D)).bind fun t5 =>
  ((loopW (F1115_L0 t3) [t4_2, t5, .any] p30.2).bind fun r =>
    some ((unblk 0 r.1), [(nth 0 r.2.1), (nth 1 r.2.1), (nth 2 r.2.1)], r.2.2)).bind fun r_1 =>
  toEnd r_1.1 ((some ((nth 0 r_1.2.1) : D)).bind fun t60 =>
  (dFieldAddr tab ty31 5 t3).bind fun t61 =>
  (dLoad tab r_1.2.2 ty3 t61).bind fun t62 =>
  (R fn1119 [t60, t62] r_1.2.2).bind fun p63 =>
  (dFieldAddr tab ty31 6 t3).bind fun t64 =>
  (dLoad tab p63.2 ty3 t64).bind fun t65 =>
  (R fn1119 [p63.1, t65] p63.2).bind fun p66 =>
  (dFieldAddr tab ty31 7 t3).bind fun t67 =>
  (dLoad tab p66.2 ty9 t67).bind fun t68 =>
  (R fn1118 [p66.1, t68] p66.2).bind fun p69 =>
  (dFieldAddr tab ty31 8 t3).bind fun t70 =>
  (dLoad tab p69.2 ty9 t70).bind fun t71 =>
  (R fn1118 [p69.1, t71] p69.2).bind fun p72 =>
  chk (dLoad tab r_1.2.2 ty3 t64 = some t65)
  (chk (dLoad tab r_1.2.2 ty9 t67 = some t68)
  (chk (dLoad tab p63.2 ty9 t67 = some t68)
  (chk (dLoad tab r_1.2.2 ty9 t70 = some t71)
  (chk (dLoad tab p63.2 ty9 t70 = some t71)
  (chk (dLoad tab p66.2 ty9 t70 = some t71)
  ((some (p72.1 : D)).bind fun t4_4 =>
  (some (t4_4 : D)).bind fun t73 =>
  (dFieldAddr tab ty31 9 t3).bind fun t74 =>
  (dLoad tab p72.2 ty29 t74).bind fun t75 =>
  (dLenT tab ty29 t75).bind fun t76 =>
  (dConv tab ty3 ty1029 t76).bind fun t77 =>
  (R fn1116 [t73, t77, .int .i64 4] p72.2).bind fun p78 =>
  (some (p78.1 : D)).bind fun t4_5 =>
  (some (.int .i64 0 : D)).bind fun t6 =>
  ((loopW (F1115_L1 t3) [t4_5, t6, .any] p78.2).bind fun r_2 =>
    some ((unblk 2 r_2.1), [(nth 0 r_2.2.1), (nth 1 r_2.2.1), (nth 2 r_2.2.1)], r_2.2.2)).bind fun r_3 =>
  toEnd r_3.1 ((some ((nth 0 r_3.2.1) : D)).bind fun t101 =>
  (some (t101 : D)).bind fun t2_1 =>
  ((some (t2_1 : D)).bind fun d => (some ([] : List D)).bind fun ds => some (d :: ds)).bind fun ds => some (mkRes ds, r_3.2.2)) fun x_1 => exEnd x_1 (((some (t2 : D)).bind fun d => (some ([] : List D)).bind fun ds => some (d :: ds)).bind fun ds => some (mkRes ds, r_3.2.2))))))))) fun x => exEnd x (((some (t2 : D)).bind fun d => (some ([] : List D)).bind fun ds => some (d :: ds)).bind fun ds => some (mkRes ds, r_1.2.2))))))))
theorem e1115 (t0 : D) (h : Hp) : R fn1115 [t0] h = F1115 t0 h :=
  (run_fn (X := X) (F := Fs) (fi := i56) (by kernel_rfl) _ _).trans (by kernel_rfl)
/-- a loop: slots 0 7 11 -/
noncomputable def F1116_L0 (t1 : D) (ds : List D) (h_1 : Hp) : Option Out :=
    (some ((nth 1 ds) : D)).bind fun t10 =>
    (dBin tab .geq ty3 t10 (.int .i64 0)).bind fun t11 =>
    dIf t11
      ((some ((nth 0 ds) : D)).bind fun t14 =>
    (some (t1 : D)).bind fun t15 =>
    (some ((nth 1 ds) : D)).bind fun t16 =>
    (dBin tab .mul ty3 (.int .i64 8) t16).bind fun t17 =>
    (dConv tab ty3 ty134 t17).bind fun t18 =>
    (dBin tab .shr ty1029 t15 t18).bind fun t19 =>
    (dConv tab ty1029 ty5 t19).bind fun t20 =>
    (pLitF tab ty22 1 [0] [t20]).bind fun t21 =>
    (dAppend tab h_1 ty22 ty22 t14 t21).bind fun p22 =>
    (some (p22.1 : D)).bind fun t0_1 =>
    (some ((nth 1 ds) : D)).bind fun t12 =>
    (dBin tab .sub ty3 t12 (.int .i64 1)).bind fun t13 =>
    (some (t13 : D)).bind fun t7_1 =>
    some (.nrm, [t0_1, t7_1, t11], p22.2))
      (some ((.ext 0), [(nth 0 ds), (nth 1 ds), t11], h_1))
noncomputable def F1116 (t0 : D) (t1 : D) (t2 : D) (h : Hp) : Option (D × Hp) :=
  (some (.nils : D)).bind fun t6 =>
  (some (t2 : D)).bind fun t8 =>
  (dBin tab .sub ty3 t8 (.int .i64 1)).bind fun t9 =>
  (some (t9 : D)).bind fun t7 =>
  ((loopW (F1116_L0 t1) [t0, t7, .any] h).bind fun r =>
    some ((unblk 0 r.1), [(nth 0 r.2.1), (nth 1 r.2.1), (nth 2 r.2.1)], r.2.2)).bind fun r_1 =>
  toEnd r_1.1 ((some ((nth 0 r_1.2.1) : D)).bind fun t23 =>
  (some (t23 : D)).bind fun t6_1 =>
  ((some (t6_1 : D)).bind fun d => (some ([] : List D)).bind fun ds => some (d :: ds)).bind fun ds => some (mkRes ds, r_1.2.2)) fun x => exEnd x (((some (t6 : D)).bind fun d => (some ([] : List D)).bind fun ds => some (d :: ds)).bind fun ds => some (mkRes ds, r_1.2.2))
theorem e1116 (t0 : D) (t1 : D) (t2 : D) (h : Hp) : R fn1116 [t0, t1, t2] h = F1116 t0 t1 t2 h :=
  (run_fn (X := X) (F := Fs) (fi := i57) (by kernel_rfl) _ _).trans (by kernel_rfl)
/-- a loop: slots 3 4 8 -/
noncomputable def F1117_L0 (t0 : D) (ds : List D) (h_1 : Hp) : Option Out :=
    (some ((nth 1 ds) : D)).bind fun t5 =>
    (some (t0 : D)).bind fun t6 =>
    (dLenT tab ty22 t6).bind fun t7 =>
    (dBin tab .lss ty3 t5 t7).bind fun t8 =>
    dIf t8
      ((some ((nth 0 ds) : D)).bind fun t11 =>
    (dBin tab .mul ty1029 t11 (.int .u64 31)).bind fun t12 =>
    (some (t0 : D)).bind fun t13 =>
    (some ((nth 1 ds) : D)).bind fun t14 =>
    (dIndexAddr tab ty22 t13 t14).bind fun t15 =>
    (dLoad tab h_1 ty5 t15).bind fun t16 =>
    (dConv tab ty5 ty1029 t16).bind fun t17 =>
    (dBin tab .add ty1029 t12 t17).bind fun t18 =>
    (dBin tab .rem ty1029 t18 (.int .u64 4294967291)).bind fun t19 =>
    (some (t19 : D)).bind fun t3_1 =>
    (some ((nth 1 ds) : D)).bind fun t9 =>
    (dBin tab .add ty3 t9 (.int .i64 1)).bind fun t10 =>
    (some (t10 : D)).bind fun t4_1 =>
    some (.nrm, [t3_1, t4_1, t8], h_1))
      (some ((.ext 0), [(nth 0 ds), (nth 1 ds), t8], h_1))
noncomputable def F1117 (t0 : D) (h : Hp) : Option (D × Hp) :=
  (some (.int .u64 0 : D)).bind fun t2 =>
  (some (.int .u64 1 : D)).bind fun t3 =>
  (some (.int .i64 0 : D)).bind fun t4 =>
  ((loopW (F1117_L0 t0) [t3, t4, .any] h).bind fun r =>
    some ((unblk 0 r.1), [(nth 0 r.2.1), (nth 1 r.2.1), (nth 2 r.2.1)], r.2.2)).bind fun r_1 =>
  toEnd r_1.1 ((some ((nth 0 r_1.2.1) : D)).bind fun t20 =>
  (some (t20 : D)).bind fun t2_1 =>
  ((some (t2_1 : D)).bind fun d => (some ([] : List D)).bind fun ds => some (d :: ds)).bind fun ds => some (mkRes ds, r_1.2.2)) fun x => exEnd x (((some (t2 : D)).bind fun d => (some ([] : List D)).bind fun ds => some (d :: ds)).bind fun ds => some (mkRes ds, r_1.2.2))
theorem e1117 (t0 : D) (h : Hp) : R fn1117 [t0] h = F1117 t0 h :=
  (run_fn (X := X) (F := Fs) (fi := i58) (by kernel_rfl) _ _).trans (by kernel_rfl)
noncomputable def F1051 (t0 : D) (t1 : D) (t2 : D) (h : Hp) : Option (D × Hp) :=
  (some (.bool false : D)).bind fun t6 =>
  (some (t1 : D)).bind fun t7 =>
  (some (t0 : D)).bind fun t8 =>
  (dBin tab .leq ty3 t7 t8).bind fun t9 =>
  (some (t9 : D)).bind fun t10 =>
  (gd t10 true (some (t0 : D))).bind fun t11 =>
  (gd t10 true (some (t2 : D))).bind fun t12 =>
  (gd t10 true (dBin tab .leq ty3 t11 t12)).bind fun t13 =>
  (dPick t10 t13 (.bool false)).bind fun t14 =>
  (some (t14 : D)).bind fun t6_1 =>
  ((some (t6_1 : D)).bind fun d => (some ([] : List D)).bind fun ds => some (d :: ds)).bind fun ds => some (mkRes ds, h)
theorem e1051 (t0 : D) (t1 : D) (t2 : D) (h : Hp) : R fn1051 [t0, t1, t2] h = F1051 t0 t1 t2 h :=
  (run_fn (X := X) (F := Fs) (fi := i59) (by kernel_rfl) _ _).trans (by kernel_rfl)
/-- a loop: slots 2 3 5 12 13 19 -/
noncomputable def F1052_L0 (t10 : D) (t11 : D) (ds : List D) (h_1 : Hp) : Option Out :=
    (dBin tab .lss ty3 (nth 3 ds) t11).bind fun t13 =>
    dIf t13
      ((dIndexAddr tab ty29 t10 (nth 3 ds)).bind fun t14 =>
    (dLoad tab h_1 ty109 t14).bind fun t15 =>
    (boxN 2 t15).bind fun t5 =>
    (dFieldAddr tab ty109 0 t5).bind fun t16 =>
    (dLoad tab h_1 ty9 t16).bind fun t17 =>
    (R fn1056 [t17] h_1).bind fun p18 =>
    (dUn .not p18.1).bind fun t19 =>
    dIf t19
      ((some (.nils : D)).bind fun t2_2 =>
      (some (.int .i64 6 : D)).bind fun t3_2 =>
      some (.ret, [t2_2, t3_2, t5, (nth 3 ds), t13, t19], p18.2))
      ((dBin tab .add ty3 (nth 3 ds) (.int .i64 1)).bind fun t20 =>
    (some (t20 : D)).bind fun t12_1 =>
    some (.nrm, [(nth 0 ds), (nth 1 ds), t5, t12_1, t13, t19], p18.2)))
      (some ((.ext 0), [(nth 0 ds), (nth 1 ds), (nth 2 ds), (nth 3 ds), t13, (nth 5 ds)], h_1))
/-- a loop: slots 2 3 6 28 42 -/
noncomputable def F1052_L1 (t0_1 : D) (ds_1 : List D) (h_2 : Hp) : Option Out :=
    (some ((nth 2 ds_1) : D)).bind fun t25 =>
    (some (t0_1 : D)).bind fun t26 =>
    (dLenT tab ty29 t26).bind fun t27 =>
    (dBin tab .lss ty3 t25 t27).bind fun t28 =>
    dIf t28
      ((some (t0_1 : D)).bind fun t31 =>
    (some ((nth 2 ds_1) : D)).bind fun t32 =>
    (dIndexAddr tab ty29 t31 t32).bind fun t33 =>
    (dFieldAddr tab ty109 0 t33).bind fun t34 =>
    (dLoad tab h_2 ty9 t34).bind fun t35 =>
    (some (t0_1 : D)).bind fun t36 =>
    (some ((nth 2 ds_1) : D)).bind fun t37 =>
    (dBin tab .sub ty3 t37 (.int .i64 1)).bind fun t38 =>
    (dIndexAddr tab ty29 t36 t38).bind fun t39 =>
    (dFieldAddr tab ty109 0 t39).bind fun t40 =>
    (dLoad tab h_2 ty9 t40).bind fun t41 =>
    (dBin tab .eql ty9 t35 t41).bind fun t42 =>
    dIf t42
      ((some (.nils : D)).bind fun t2_3 =>
      (some (.int .i64 7 : D)).bind fun t3_3 =>
      some (.ret, [t2_3, t3_3, (nth 2 ds_1), t28, t42], h_2))
      ((some ((nth 2 ds_1) : D)).bind fun t29 =>
    (dBin tab .add ty3 t29 (.int .i64 1)).bind fun t30 =>
    (some (t30 : D)).bind fun t6_1 =>
    some (.nrm, [(nth 0 ds_1), (nth 1 ds_1), t6_1, t28, t42], h_2)))
      (some ((.ext 2), [(nth 0 ds_1), (nth 1 ds_1), (nth 2 ds_1), t28, (nth 4 ds_1)], h_2))
noncomputable def F1052 (t0 : D) (h : Hp) : Option (D × Hp) :=
  (some (.nils : D)).bind fun t2 =>
  (some (.int .i64 0 : D)).bind fun t3 =>
  (some (t0 : D)).bind fun t7 =>
  (dLenT tab ty29 t7).bind fun t8 =>
  (dBin tab .gtr ty3 t8 (.int .i64 32)).bind fun t9 =>
  dIf t9
    ((some (.nils : D)).bind fun t2_1 =>
    (some (.int .i64 4 : D)).bind fun t3_1 =>
    ((some (t2_1 : D)).bind fun d => ((some (t3_1 : D)).bind fun d => (some ([] : List D)).bind fun ds => some (d :: ds)).bind fun ds => some (d :: ds)).bind fun ds => some (mkRes ds, h))
    ((some (t0 : D)).bind fun t10 =>
  (dLenT tab ty29 t10).bind fun t11 =>
  (some (.int .i64 0 : D)).bind fun t12 =>
  ((loopW (F1052_L0 t10 t11) [t2, t3, .any, t12, .any, .any] h).bind fun r =>
    some ((unblk 0 r.1), [(nth 0 r.2.1), (nth 1 r.2.1), (nth 2 r.2.1), (nth 3 r.2.1), (nth 4 r.2.1), (nth 5 r.2.1)], r.2.2)).bind fun r_1 =>
  toEnd r_1.1 ((some (t0 : D)).bind fun t21 =>
  (R fn1009 [t21] r_1.2.2).bind fun p22 =>
  (some (p22.1 : D)).bind fun t0_1 =>
  (some (t0_1 : D)).bind fun t23 =>
  (R fn1057 [t23, .fn (.func fn1058) [] []] p22.2).bind fun p24 =>
  (some (.int .i64 1 : D)).bind fun t6 =>
  ((loopW (F1052_L1 t0_1) [(nth 0 r_1.2.1), (nth 1 r_1.2.1), t6, .any, .any] p24.2).bind fun r_2 =>
    some ((unblk 2 r_2.1), [(nth 0 r_2.2.1), (nth 1 r_2.2.1), (nth 2 r_2.2.1), (nth 3 r_2.2.1), (nth 4 r_2.2.1)], r_2.2.2)).bind fun r_3 =>
  toEnd r_3.1 ((some (t0_1 : D)).bind fun t43 =>
  (some (t43 : D)).bind fun t2_4 =>
  (some (.int .i64 0 : D)).bind fun t3_4 =>
  ((some (t2_4 : D)).bind fun d => ((some (t3_4 : D)).bind fun d => (some ([] : List D)).bind fun ds => some (d :: ds)).bind fun ds => some (d :: ds)).bind fun ds => some (mkRes ds, r_3.2.2)) fun x_1 => exEnd x_1 (((some ((nth 0 r_3.2.1) : D)).bind fun d => ((some ((nth 1 r_3.2.1) : D)).bind fun d => (some ([] : List D)).bind fun ds => some (d :: ds)).bind fun ds => some (d :: ds)).bind fun ds => some (mkRes ds, r_3.2.2))) fun x => exEnd x (((some ((nth 0 r_1.2.1) : D)).bind fun d => ((some ((nth 1 r_1.2.1) : D)).bind fun d => (some ([] : List D)).bind fun ds => some (d :: ds)).bind fun ds => some (d :: ds)).bind fun ds => some (mkRes ds, r_1.2.2)))
theorem e1052 (t0 : D) (h : Hp) : R fn1052 [t0] h = F1052 t0 h :=
  (run_fn (X := X) (F := Fs) (fi := i60) (by kernel_rfl) _ _).trans (by kernel_rfl)
/-- a loop: slots 4 5 13 14 24 -/
noncomputable def F1053_L0 (t0 : D) (t1 : D) (t12 : D) (ds : List D) (h_1 : Hp) : Option Out :=
    (dBin tab .lss ty3 (nth 2 ds) t12).bind fun t14 =>
    dIf t14
      ((some ((nth 2 ds) : D)).bind fun t15 =>
    (some (t15 : D)).bind fun t5 =>
    (some (t0 : D)).bind fun t16 =>
    (some (t5 : D)).bind fun t17 =>
    (dIndexAddr tab ty29 t16 t17).bind fun t18 =>
    (dLoad tab h_1 ty109 t18).bind fun t19 =>
    (some (t1 : D)).bind fun t20 =>
    (some (t5 : D)).bind fun t21 =>
    (dIndexAddr tab ty29 t20 t21).bind fun t22 =>
    (dLoad tab h_1 ty109 t22).bind fun t23 =>
    (dBin tab .neq ty109 t19 t23).bind fun t24 =>
    dIf t24
      ((some (.bool false : D)).bind fun t4_2 =>
      some (.ret, [t4_2, t5, (nth 2 ds), t14, t24], h_1))
      ((dBin tab .add ty3 (nth 2 ds) (.int .i64 1)).bind fun t25 =>
    (some (t25 : D)).bind fun t13_1 =>
    some (.nrm, [(nth 0 ds), t5, t13_1, t14, t24], h_1)))
      (some ((.ext 0), [(nth 0 ds), (nth 1 ds), (nth 2 ds), t14, (nth 4 ds)], h_1))
noncomputable def F1053 (t0 : D) (t1 : D) (h : Hp) : Option (D × Hp) :=
  (some (.bool false : D)).bind fun t4 =>
  (some (t0 : D)).bind fun t6 =>
  (dLenT tab ty29 t6).bind fun t7 =>
  (some (t1 : D)).bind fun t8 =>
  (dLenT tab ty29 t8).bind fun t9 =>
  (dBin tab .neq ty3 t7 t9).bind fun t10 =>
  dIf t10
    ((some (.bool false : D)).bind fun t4_1 =>
    ((some (t4_1 : D)).bind fun d => (some ([] : List D)).bind fun ds => some (d :: ds)).bind fun ds => some (mkRes ds, h))
    ((some (t0 : D)).bind fun t11 =>
  (dLenT tab ty29 t11).bind fun t12 =>
  (some (.int .i64 0 : D)).bind fun t13 =>
  ((loopW (F1053_L0 t0 t1 t12) [t4, .any, t13, .any, .any] h).bind fun r =>
    some ((unblk 0 r.1), [(nth 0 r.2.1), (nth 1 r.2.1), (nth 2 r.2.1), (nth 3 r.2.1), (nth 4 r.2.1)], r.2.2)).bind fun r_1 =>
  toEnd r_1.1 ((some (.bool true : D)).bind fun t4_3 =>
  ((some (t4_3 : D)).bind fun d => (some ([] : List D)).bind fun ds => some (d :: ds)).bind fun ds => some (mkRes ds, r_1.2.2)) fun x => exEnd x (((some ((nth 0 r_1.2.1) : D)).bind fun d => (some ([] : List D)).bind fun ds => some (d :: ds)).bind fun ds => some (mkRes ds, r_1.2.2)))
theorem e1053 (t0 : D) (t1 : D) (h : Hp) : R fn1053 [t0, t1] h = F1053 t0 t1 h :=
  (run_fn (X := X) (F := Fs) (fi := i61) (by kernel_rfl) _ _).trans (by kernel_rfl)
noncomputable def F1054 (t0 : D) (t1 : D) (h : Hp) : Option (D × Hp) :=
  (some (.bool false : D)).bind fun t4 =>
  (some (t0 : D)).bind fun t5 =>
  (some (t1 : D)).bind fun t6 =>
  (R fn1060 [t5, t6] h).bind fun p7 =>
  (dBin tab .geq ty3 p7.1 (.int .i64 0)).bind fun t8 =>
  (some (t8 : D)).bind fun t4_1 =>
  ((some (t4_1 : D)).bind fun d => (some ([] : List D)).bind fun ds => some (d :: ds)).bind fun ds => some (mkRes ds, p7.2)
theorem e1054 (t0 : D) (t1 : D) (h : Hp) : R fn1054 [t0, t1] h = F1054 t0 t1 h :=
  (run_fn (X := X) (F := Fs) (fi := i62) (by kernel_rfl) _ _).trans (by kernel_rfl)
noncomputable def F1055 (t0 : D) (h : Hp) : Option (D × Hp) :=
  (pBoxF t0).bind fun t1 =>
  (some (.bool false : D)).bind fun t2 =>
  (dFieldAddr tab ty109 1 t1).bind fun t3 =>
  (dLoad tab h ty9 t3).bind fun t4 =>
  (dLenT tab ty9 t4).bind fun t5 =>
  (dBin tab .gtr ty3 t5 (.int .i64 2000)).bind fun t6 =>
  (some (t6 : D)).bind fun t2_1 =>
  ((some (t2_1 : D)).bind fun d => (some ([] : List D)).bind fun ds => some (d :: ds)).bind fun ds => some (mkRes ds, h)
theorem e1055 (t0 : D) (h : Hp) : R fn1055 [t0] h = F1055 t0 h :=
  (run_fn (X := X) (F := Fs) (fi := i63) (by kernel_rfl) _ _).trans (by kernel_rfl)
/-- a loop: slots 4 5 8 9 16 -/
noncomputable def F1006_L0 (t0 : D) (t1 : D) (t7 : D) (ds : List D) (h_1 : Hp) : Option Out :=
    (dBin tab .lss ty3 (nth 2 ds) t7).bind fun t9 =>
    dIf t9
      ((some ((nth 2 ds) : D)).bind fun t10 =>
    (some (t10 : D)).bind fun t5 =>
    (some (t1 : D)).bind fun t11 =>
    (some (t0 : D)).bind fun t12 =>
    (some (t5 : D)).bind fun t13 =>
    (dIndexAddr tab ty28 t12 t13).bind fun t14 =>
    (dLoad tab h_1 ty78 t14).bind fun t15 =>
    (callV R t11 [t15] h_1).bind fun p16 =>
    dIf p16.1
      ((some (t5 : D)).bind fun t17 =>
      (some (t17 : D)).bind fun t4_1 =>
      some (.ret, [t4_1, t5, (nth 2 ds), t9, p16.1], p16.2))
      ((dBin tab .add ty3 (nth 2 ds) (.int .i64 1)).bind fun t18 =>
    (some (t18 : D)).bind fun t8_1 =>
    some (.nrm, [(nth 0 ds), t5, t8_1, t9, p16.1], p16.2)))
      (some ((.ext 0), [(nth 0 ds), (nth 1 ds), (nth 2 ds), t9, (nth 4 ds)], h_1))
noncomputable def F1006 (t0 : D) (t1 : D) (h : Hp) : Option (D × Hp) :=
  (some (.int .i64 0 : D)).bind fun t4 =>
  (some (t0 : D)).bind fun t6 =>
  (dLenT tab ty28 t6).bind fun t7 =>
  (some (.int .i64 0 : D)).bind fun t8 =>
  ((loopW (F1006_L0 t0 t1 t7) [t4, .any, t8, .any, .any] h).bind fun r =>
    some ((unblk 0 r.1), [(nth 0 r.2.1), (nth 1 r.2.1), (nth 2 r.2.1), (nth 3 r.2.1), (nth 4 r.2.1)], r.2.2)).bind fun r_1 =>
  toEnd r_1.1 ((some (.int .i64 (-1) : D)).bind fun t4_2 =>
  ((some (t4_2 : D)).bind fun d => (some ([] : List D)).bind fun ds => some (d :: ds)).bind fun ds => some (mkRes ds, r_1.2.2)) fun x => exEnd x (((some ((nth 0 r_1.2.1) : D)).bind fun d => (some ([] : List D)).bind fun ds => some (d :: ds)).bind fun ds => some (mkRes ds, r_1.2.2))
theorem e1006 (t0 : D) (t1 : D) (h : Hp) : R fn1006 [t0, t1] h = F1006 t0 t1 h :=
  (run_fn (X := X) (F := Fs) (fi := i64) (by kernel_rfl) _ _).trans (by kernel_rfl)
noncomputable def F102 (t0 : D) (h : Hp) : Option (D × Hp) :=
  (some (.str [] : D)).bind fun t2 =>
  (pLitF tab ty98 14 [0, 1, 2, 3, 4, 5, 6, 7, 8, 9, 10, 11, 12, 13] [.str [103, 101, 116], .str [101, 114, 114, 111, 114], .str [119, 97, 114, 110], .str [97, 49], .str [117, 115, 101, 114, 95, 55], .str [120], .str [84, 105, 109, 101, 111, 117, 116], .str [50, 48, 48], .str [71, 69, 84], .str [101, 114, 114, 111], .str [122], .str [], .str [255], .str [97, 46, 98]]).bind fun t4 =>
  (some (t4 : D)).bind fun t3 =>
  (some (t3 : D)).bind fun t5 =>
  (some (t0 : D)).bind fun t6 =>
  (some (t3 : D)).bind fun t7 =>
  (dLenT tab ty98 t7).bind fun t8 =>
  (R fn24 [t6, t8] h).bind fun p9 =>
  (dIndexAddr tab ty98 t5 p9.1).bind fun t10 =>
  (dLoad tab p9.2 ty9 t10).bind fun t11 =>
  (some (t11 : D)).bind fun t2_1 =>
  ((some (t2_1 : D)).bind fun d => (some ([] : List D)).bind fun ds => some (d :: ds)).bind fun ds => some (mkRes ds, p9.2)
theorem e102 (t0 : D) (h : Hp) : R fn102 [t0] h = F102 t0 h :=
  (run_fn (X := X) (F := Fs) (fi := i65) (by kernel_rfl) _ _).trans (by kernel_rfl)
noncomputable def F33 (t0 : D) (h : Hp) : Option (D × Hp) :=
  (some (.str [] : D)).bind fun t2 =>
  (pLitF tab ty98 11 [0, 1, 2, 3, 4, 5, 6, 7, 8, 9, 10] [.str [119, 97, 114, 110], .str [105, 110, 102, 111], .str [55], .str [45, 51], .str [51, 49], .str [], .str [120, 32, 121], .str [57, 57, 57, 57, 57, 57, 57, 57, 57, 57, 57, 57, 57, 57, 57, 57, 57, 57], .str [49, 48, 48, 48, 48, 48, 48, 48, 48, 48, 48, 48, 48, 48, 48, 48, 48, 48, 48], .str [48, 55], .str [45]]).bind fun t4 =>
  (some (t4 : D)).bind fun t3 =>
  (some (t3 : D)).bind fun t5 =>
  (some (t0 : D)).bind fun t6 =>
  (some (t3 : D)).bind fun t7 =>
  (dLenT tab ty98 t7).bind fun t8 =>
  (R fn24 [t6, t8] h).bind fun p9 =>
  (dIndexAddr tab ty98 t5 p9.1).bind fun t10 =>
  (dLoad tab p9.2 ty9 t10).bind fun t11 =>
  (some (t11 : D)).bind fun t2_1 =>
  ((some (t2_1 : D)).bind fun d => (some ([] : List D)).bind fun ds => some (d :: ds)).bind fun ds => some (mkRes ds, p9.2)
theorem e33 (t0 : D) (h : Hp) : R fn33 [t0] h = F33 t0 h :=
  (run_fn (X := X) (F := Fs) (fi := i66) (by kernel_rfl) _ _).trans (by kernel_rfl)
/-- a loop: slots 2 7 58 67 -/
noncomputable def F1010_L0 (t5 : D) (ds : List D) (h_1 : Hp) : Option Out :=
    (some ((nth 1 ds) : D)).bind fun t55 =>
    (some (t5 : D)).bind fun t56 =>
    (dLenT tab ty29 t56).bind fun t57 =>
    (dBin tab .lss ty3 t55 t57).bind fun t58 =>
    dIf t58
      ((some (t5 : D)).bind fun t61 =>
    (some ((nth 1 ds) : D)).bind fun t62 =>
    (dIndexAddr tab ty29 t61 t62).bind fun t63 =>
    (dFieldAddr tab ty109 1 t63).bind fun t64 =>
    (dLoad tab h_1 ty9 t64).bind fun t65 =>
    (dLenT tab ty9 t65).bind fun t66 =>
    (dBin tab .gtr ty3 t66 (.int .i64 2000)).bind fun t67 =>
    dIf t67
      ((some (.int .i64 3 : D)).bind fun t2_7 =>
      some (.ret, [t2_7, (nth 1 ds), t58, t67], h_1))
      ((some ((nth 1 ds) : D)).bind fun t59 =>
    (dBin tab .add ty3 t59 (.int .i64 1)).bind fun t60 =>
    (some (t60 : D)).bind fun t7_1 =>
    some (.nrm, [(nth 0 ds), t7_1, t58, t67], h_1)))
      (some ((.ext 0), [(nth 0 ds), (nth 1 ds), t58, (nth 3 ds)], h_1))
noncomputable def F1010 (t0 : D) (h : Hp) : Option (D × Hp) :=
  (pBoxF t0).bind fun t1 =>
  (some (.int .i64 0 : D)).bind fun t2 =>
  (dLoad tab h ty31 t1).bind fun t8 =>
  (R fn1011 [t8] h).bind fun p9 =>
  (some (p9.1 : D)).bind fun t3 =>
  (some (t3 : D)).bind fun t10 =>
  (dBin tab .neq ty49 t10 (.int .i64 0)).bind fun t11 =>
  (some (t11 : D)).bind fun t12 =>
  (gd t12 false (dFieldAddr tab ty31 5 t1)).bind fun t13 =>
  (gd t12 false (dLoad tab p9.2 ty3 t13)).bind fun t14 =>
  (gd t12 false (dBin tab .lss ty3 t14 (.int .i64 0))).bind fun t15 =>
  (dPick t12 (.bool true) t15).bind fun t16 =>
  (some (t16 : D)).bind fun t17 =>
  (gd t17 false (dFieldAddr tab ty31 5 t1)).bind fun t18 =>
  (gd t17 false (dLoad tab p9.2 ty3 t18)).bind fun t19 =>
  (gd t17 false (dBin tab .gtr ty3 t19 (.int .i64 253402300799999))).bind fun t20 =>
  (dPick t17 (.bool true) t20).bind fun t21 =>
  dIf t21
    ((some (.int .i64 2 : D)).bind fun t2_1 =>
    ((some (t2_1 : D)).bind fun d => (some ([] : List D)).bind fun ds => some (d :: ds)).bind fun ds => some (mkRes ds, p9.2))
    ((dFieldAddr tab ty31 6 t1).bind fun t22 =>
  (dLoad tab p9.2 ty3 t22).bind fun t23 =>
  (R fn1014 [t23] p9.2).bind fun p24 =>
  (dUn .not p24.1).bind fun t25 =>
  dIf t25
    ((some (.int .i64 21 : D)).bind fun t2_2 =>
    ((some (t2_2 : D)).bind fun d => (some ([] : List D)).bind fun ds => some (d :: ds)).bind fun ds => some (mkRes ds, p24.2))
    ((dLoad tab p24.2 ty31 t1).bind fun t26 =>
  (R fn1012 [t26, .int .i64 2000] p24.2).bind fun p27 =>
  (some (p27.1 : D)).bind fun t4 =>
  (some (t4 : D)).bind fun t28 =>
  (dBin tab .neq ty49 t28 (.int .i64 0)).bind fun t29 =>
  dIf t29
    ((some (t4 : D)).bind fun t30 =>
    (some (t30 : D)).bind fun t2_3 =>
    ((some (t2_3 : D)).bind fun d => (some ([] : List D)).bind fun ds => some (d :: ds)).bind fun ds => some (mkRes ds, p27.2))
    ((dFieldAddr tab ty31 7 t1).bind fun t31 =>
  (dLoad tab p27.2 ty9 t31).bind fun t32 =>
  (dLenT tab ty9 t32).bind fun t33 =>
  (dBin tab .gtr ty3 t33 (.int .i64 32)).bind fun t34 =>
  (some (t34 : D)).bind fun t35 =>
  (gd t35 false (dFieldAddr tab ty31 8 t1)).bind fun t36 =>
  (gd t35 false (dLoad tab p27.2 ty9 t36)).bind fun t37 =>
  (gd t35 false (dLenT tab ty9 t37)).bind fun t38 =>
  (gd t35 false (dBin tab .gtr ty3 t38 (.int .i64 32))).bind fun t39 =>
  (dPick t35 (.bool true) t39).bind fun t40 =>
  dIf t40
    ((some (.int .i64 3 : D)).bind fun t2_4 =>
    ((some (t2_4 : D)).bind fun d => (some ([] : List D)).bind fun ds => some (d :: ds)).bind fun ds => some (mkRes ds, p27.2))
    ((dFieldAddr tab ty31 9 t1).bind fun t42 =>
  (dLoad tab p27.2 ty29 t42).bind fun t43 =>
  (R fn1015 [t43] p27.2).bind fun p44 =>
  (some (p44.1 : D)).bind fun t41 =>
  (dExtract 0 t41).bind fun t45 =>
  (dExtract 1 t41).bind fun t46 =>
  (some (t45 : D)).bind fun t5 =>
  (some (t46 : D)).bind fun t6 =>
  (some (t6 : D)).bind fun t47 =>
  (dBin tab .neq ty49 t47 (.int .i64 0)).bind fun t48 =>
  dIf t48
    ((some (t6 : D)).bind fun t49 =>
    (some (t49 : D)).bind fun t2_5 =>
    ((some (t2_5 : D)).bind fun d => (some ([] : List D)).bind fun ds => some (d :: ds)).bind fun ds => some (mkRes ds, p44.2))
    ((some (t5 : D)).bind fun t50 =>
  (dFieldAddr tab ty31 9 t1).bind fun t51 =>
  (dLoad tab p44.2 ty29 t51).bind fun t52 =>
  (R fn95 [t50, t52] p44.2).bind fun p53 =>
  (dUn .not p53.1).bind fun t54 =>
  dIf t54
    ((some (.int .i64 19 : D)).bind fun t2_6 =>
    ((some (t2_6 : D)).bind fun d => (some ([] : List D)).bind fun ds => some (d :: ds)).bind fun ds => some (mkRes ds, p53.2))
    ((some (.int .i64 0 : D)).bind fun t7 =>
  ((loopW (F1010_L0 t5) [t2, t7, .any, .any] p53.2).bind fun r =>
    some ((unblk 0 r.1), [(nth 0 r.2.1), (nth 1 r.2.1), (nth 2 r.2.1), (nth 3 r.2.1)], r.2.2)).bind fun r_1 =>
  toEnd r_1.1 ((some (.int .i64 0 : D)).bind fun t2_8 =>
  ((some (t2_8 : D)).bind fun d => (some ([] : List D)).bind fun ds => some (d :: ds)).bind fun ds => some (mkRes ds, r_1.2.2)) fun x => exEnd x (((some ((nth 0 r_1.2.1) : D)).bind fun d => (some ([] : List D)).bind fun ds => some (d :: ds)).bind fun ds => some (mkRes ds, r_1.2.2))))))))
theorem e1010 (t0 : D) (h : Hp) : R fn1010 [t0] h = F1010 t0 h :=
  (run_fn (X := X) (F := Fs) (fi := i67) (by kernel_rfl) _ _).trans (by kernel_rfl)
noncomputable def F1011 (t0 : D) (h : Hp) : Option (D × Hp) :=
  (pBoxF t0).bind fun t1 =>
  (some (.int .i64 0 : D)).bind fun t2 =>
  (dFieldAddr tab ty31 0 t1).bind fun t3 =>
  (dLoad tab h ty3 t3).bind fun t4 =>
  (dBin tab .lss ty3 t4 (.int .i64 0)).bind fun t5 =>
  (some (t5 : D)).bind fun t6 =>
  (gd t6 false (dFieldAddr tab ty31 0 t1)).bind fun t7 =>
  (gd t6 false (dLoad tab h ty3 t7)).bind fun t8 =>
  (gd t6 false (dBin tab .gtr ty3 t8 (.int .i64 999))).bind fun t9 =>
  (dPick t6 (.bool true) t9).bind fun t10 =>
  (some (t10 : D)).bind fun t11 =>
  (gd t11 false (dFieldAddr tab ty31 1 t1)).bind fun t12 =>
  (gd t11 false (dLoad tab h ty3 t12)).bind fun t13 =>
  (gd t11 false (dBin tab .lss ty3 t13 (.int .i64 0))).bind fun t14 =>
  (dPick t11 (.bool true) t14).bind fun t15 =>
  (some (t15 : D)).bind fun t16 =>
  (gd t16 false (dFieldAddr tab ty31 1 t1)).bind fun t17 =>
  (gd t16 false (dLoad tab h ty3 t17)).bind fun t18 =>
  (gd t16 false (dBin tab .gtr ty3 t18 (.int .i64 2147483646))).bind fun t19 =>
  (dPick t16 (.bool true) t19).bind fun t20 =>
  (some (t20 : D)).bind fun t21 =>
  (gd t21 false (dFieldAddr tab ty31 2 t1)).bind fun t22 =>
  (gd t21 false (dLoad tab h ty3 t22)).bind fun t23 =>
  (gd t21 false (dBin tab .lss ty3 t23 (.int .i64 0))).bind fun t24 =>
  (dPick t21 (.bool true) t24).bind fun t25 =>
  (some (t25 : D)).bind fun t26 =>
  (gd t26 false (dFieldAddr tab ty31 3 t1)).bind fun t27 =>
  (gd t26 false (dLoad tab h ty3 t27)).bind fun t28 =>
  (gd t26 false (dFieldAddr tab ty31 2 t1)).bind fun t29 =>
  (gd t26 false (dLoad tab h ty3 t29)).bind fun t30 =>
  (gd t26 false (dBin tab .leq ty3 t28 t30)).bind fun t31 =>
  (dPick t26 (.bool true) t31).bind fun t32 =>
  (some (t32 : D)).bind fun t33 =>
  (gd t33 false (dFieldAddr tab ty31 3 t1)).bind fun t34 =>
  (gd t33 false (dLoad tab h ty3 t34)).bind fun t35 =>
  (gd t33 false (dBin tab .gtr ty3 t35 (.int .i64 60000))).bind fun t36 =>
  (dPick t33 (.bool true) t36).bind fun t37 =>
  dIf t37
    ((some (.int .i64 2 : D)).bind fun t2_1 =>
    ((some (t2_1 : D)).bind fun d => (some ([] : List D)).bind fun ds => some (d :: ds)).bind fun ds => some (mkRes ds, h))
    ((some (.int .i64 0 : D)).bind fun t2_2 =>
  ((some (t2_2 : D)).bind fun d => (some ([] : List D)).bind fun ds => some (d :: ds)).bind fun ds => some (mkRes ds, h))
theorem e1011 (t0 : D) (h : Hp) : R fn1011 [t0] h = F1011 t0 h :=
  (run_fn (X := X) (F := Fs) (fi := i68) (by kernel_rfl) _ _).trans (by kernel_rfl)
/-- a loop: slots 4 5 6 7 22 64 69 -/
noncomputable def F1012_L0 (t1 : D) (t2 : D) (ds : List D) (h_1 : Hp) : Option Out :=
    (some ((nth 2 ds) : D)).bind fun t18 =>
    (dFieldAddr tab ty31 4 t2).bind fun t19 =>
    (dLoad tab h_1 ty28 t19).bind fun t20 =>
    (dLenT tab ty28 t20).bind fun t21 =>
    (dBin tab .lss ty3 t18 t21).bind fun t22 =>
    dIf t22
      ((dFieldAddr tab ty31 4 t2).bind fun t25 =>
    (dLoad tab h_1 ty28 t25).bind fun t26 =>
    (some ((nth 2 ds) : D)).bind fun t27 =>
    (dIndexAddr tab ty28 t26 t27).bind fun t28 =>
    (dLoad tab h_1 ty78 t28).bind fun t29 =>
    (boxN 3 t29).bind fun t7 =>
    (dFieldAddr tab ty78 0 t7).bind fun t30 =>
    (dLoad tab h_1 ty3 t30).bind fun t31 =>
    (some ((nth 1 ds) : D)).bind fun t32 =>
    (dBin tab .neq ty3 t31 t32).bind fun t33 =>
    (some (t33 : D)).bind fun t34 =>
    (gd t34 false (dFieldAddr tab ty78 1 t7)).bind fun t35 =>
    (gd t34 false (dLoad tab h_1 ty3 t35)).bind fun t36 =>
    (gd t34 false (dBin tab .lss ty3 t36 (.int .i64 1))).bind fun t37 =>
    (dPick t34 (.bool true) t37).bind fun t38 =>
    (some (t38 : D)).bind fun t39 =>
    (gd t39 false (dFieldAddr tab ty78 1 t7)).bind fun t40 =>
    (gd t39 false (dLoad tab h_1 ty3 t40)).bind fun t41 =>
    (gd t39 false (dFieldAddr tab ty31 3 t2)).bind fun t42 =>
    (gd t39 false (dLoad tab h_1 ty3 t42)).bind fun t43 =>
    (gd t39 false (some ((nth 1 ds) : D))).bind fun t44 =>
    (gd t39 false (dBin tab .sub ty3 t43 t44)).bind fun t45 =>
    (gd t39 false (dBin tab .gtr ty3 t41 t45)).bind fun t46 =>
    (dPick t39 (.bool true) t46).bind fun t47 =>
    (some (t47 : D)).bind fun t48 =>
    (gd t48 false (some ((nth 2 ds) : D))).bind fun t49 =>
    (gd t48 false (dFieldAddr tab ty31 4 t2)).bind fun t50 =>
    (gd t48 false (dLoad tab h_1 ty28 t50)).bind fun t51 =>
    (gd t48 false (dLenT tab ty28 t51)).bind fun t52 =>
    (gd t48 false (dBin tab .sub ty3 t52 (.int .i64 1))).bind fun t53 =>
    (gd t48 false (dBin tab .eql ty3 t49 t53)).bind fun t54 =>
    (gd t48 false (some (t54 : D))).bind fun t55 =>
    (gd t55 true (dFieldAddr tab ty78 1 t7)).bind fun t56 =>
    (gd t55 true (dLoad tab h_1 ty3 t56)).bind fun t57 =>
    (gd t55 true (dFieldAddr tab ty31 3 t2)).bind fun t58 =>
    (gd t55 true (dLoad tab h_1 ty3 t58)).bind fun t59 =>
    (gd t55 true (some ((nth 1 ds) : D))).bind fun t60 =>
    (gd t55 true (dBin tab .sub ty3 t59 t60)).bind fun t61 =>
    (gd t55 true (dBin tab .neq ty3 t57 t61)).bind fun t62 =>
    (gd t48 false (dPick t55 t62 (.bool false))).bind fun t63 =>
    (dPick t48 (.bool true) t63).bind fun t64 =>
    dIf t64
      ((some (.int .i64 19 : D)).bind fun t4_3 =>
      some (.ret, [t4_3, (nth 1 ds), (nth 2 ds), t7, t22, t64, (nth 6 ds)], h_1))
      ((dFieldAddr tab ty78 2 t7).bind fun t65 =>
    (dLoad tab h_1 ty9 t65).bind fun t66 =>
    (dLenT tab ty9 t66).bind fun t67 =>
    (some (t1 : D)).bind fun t68 =>
    (dBin tab .gtr ty3 t67 t68).bind fun t69 =>
    dIf t69
      ((some (.int .i64 3 : D)).bind fun t4_4 =>
      some (.ret, [t4_4, (nth 1 ds), (nth 2 ds), t7, t22, t64, t69], h_1))
      ((some ((nth 1 ds) : D)).bind fun t70 =>
    (dFieldAddr tab ty78 1 t7).bind fun t71 =>
    (dLoad tab h_1 ty3 t71).bind fun t72 =>
    (dBin tab .add ty3 t70 t72).bind fun t73 =>
    (some (t73 : D)).bind fun t5_1 =>
    (some ((nth 2 ds) : D)).bind fun t23 =>
    (dBin tab .add ty3 t23 (.int .i64 1)).bind fun t24 =>
    (some (t24 : D)).bind fun t6_1 =>
    some (.nrm, [(nth 0 ds), t5_1, t6_1, t7, t22, t64, t69], h_1))))
      (some ((.ext 0), [(nth 0 ds), (nth 1 ds), (nth 2 ds), (nth 3 ds), t22, (nth 5 ds), (nth 6 ds)], h_1))
noncomputable def F1012 (t0 : D) (t1 : D) (h : Hp) : Option (D × Hp) :=
  (pBoxF t0).bind fun t2 =>
  (some (.int .i64 0 : D)).bind fun t4 =>
  (dFieldAddr tab ty31 4 t2).bind fun t8 =>
  (dLoad tab h ty28 t8).bind fun t9 =>
  (dLenT tab ty28 t9).bind fun t10 =>
  (dBin tab .eql ty3 t10 (.int .i64 0)).bind fun t11 =>
  dIf t11
    ((some (.int .i64 9 : D)).bind fun t4_1 =>
    ((some (t4_1 : D)).bind fun d => (some ([] : List D)).bind fun ds => some (d :: ds)).bind fun ds => some (mkRes ds, h))
    ((dFieldAddr tab ty31 4 t2).bind fun t12 =>
  (dLoad tab h ty28 t12).bind fun t13 =>
  (dLenT tab ty28 t13).bind fun t14 =>
  (dBin tab .gtr ty3 t14 (.int .i64 40)).bind fun t15 =>
  dIf t15
    ((some (.int .i64 4 : D)).bind fun t4_2 =>
    ((some (t4_2 : D)).bind fun d => (some ([] : List D)).bind fun ds => some (d :: ds)).bind fun ds => some (mkRes ds, h))
    ((dFieldAddr tab ty31 2 t2).bind fun t16 =>
  (dLoad tab h ty3 t16).bind fun t17 =>
  (some (t17 : D)).bind fun t5 =>
  (some (.int .i64 0 : D)).bind fun t6 =>
  ((loopW (F1012_L0 t1 t2) [t4, t5, t6, .any, .any, .any, .any] h).bind fun r =>
    some ((unblk 0 r.1), [(nth 0 r.2.1), (nth 1 r.2.1), (nth 2 r.2.1), (nth 3 r.2.1), (nth 4 r.2.1), (nth 5 r.2.1), (nth 6 r.2.1)], r.2.2)).bind fun r_1 =>
  toEnd r_1.1 ((some (.int .i64 0 : D)).bind fun t4_5 =>
  ((some (t4_5 : D)).bind fun d => (some ([] : List D)).bind fun ds => some (d :: ds)).bind fun ds => some (mkRes ds, r_1.2.2)) fun x => exEnd x (((some ((nth 0 r_1.2.1) : D)).bind fun d => (some ([] : List D)).bind fun ds => some (d :: ds)).bind fun ds => some (mkRes ds, r_1.2.2))))
theorem e1012 (t0 : D) (t1 : D) (h : Hp) : R fn1012 [t0, t1] h = F1012 t0 t1 h :=
  (run_fn (X := X) (F := Fs) (fi := i69) (by kernel_rfl) _ _).trans (by kernel_rfl)
noncomputable def F1118 (t0 : D) (t1 : D) (h : Hp) : Option (D × Hp) :=
  (some (.nils : D)).bind fun t4 =>
  (some (t0 : D)).bind fun t5 =>
  (some (t1 : D)).bind fun t6 =>
  (dLenT tab ty9 t6).bind fun t7 =>
  (dConv tab ty3 ty1029 t7).bind fun t8 =>
  (R fn1116 [t5, t8, .int .i64 4] h).bind fun p9 =>
  (some (t1 : D)).bind fun t10 =>
  (dAppend tab p9.2 ty22 ty9 p9.1 t10).bind fun p11 =>
  (some (p11.1 : D)).bind fun t4_1 =>
  ((some (t4_1 : D)).bind fun d => (some ([] : List D)).bind fun ds => some (d :: ds)).bind fun ds => some (mkRes ds, p11.2)
theorem e1118 (t0 : D) (t1 : D) (h : Hp) : R fn1118 [t0, t1] h = F1118 t0 t1 h :=
  (run_fn (X := X) (F := Fs) (fi := i70) (by kernel_rfl) _ _).trans (by kernel_rfl)
noncomputable def F1119 (t0 : D) (t1 : D) (h : Hp) : Option (D × Hp) :=
  (some (.nils : D)).bind fun t4 =>
  (some (t0 : D)).bind fun t5 =>
  (some (t1 : D)).bind fun t6 =>
  (dConv tab ty3 ty1029 t6).bind fun t7 =>
  (R fn1116 [t5, t7, .int .i64 8] h).bind fun p8 =>
  (some (p8.1 : D)).bind fun t4_1 =>
  ((some (t4_1 : D)).bind fun d => (some ([] : List D)).bind fun ds => some (d :: ds)).bind fun ds => some (mkRes ds, p8.2)
theorem e1119 (t0 : D) (t1 : D) (h : Hp) : R fn1119 [t0, t1] h = F1119 t0 t1 h :=
  (run_fn (X := X) (F := Fs) (fi := i71) (by kernel_rfl) _ _).trans (by kernel_rfl)
/-- a loop: slots 2 4 26 27 36 -/
noncomputable def F1056_L0 (p24 : D × Hp) (t25 : D) (ds : List D) (h_1 : Hp) : Option Out :=
    (dBin tab .lss ty3 (nth 2 ds) t25).bind fun t27 =>
    dIf t27
      ((dIndexAddr tab ty22 p24.1 (nth 2 ds)).bind fun t28 =>
    (dLoad tab h_1 ty5 t28).bind fun t29 =>
    (some (t29 : D)).bind fun t4 =>
    (some (t4 : D)).bind fun t30 =>
    (R fn1062 [t30] h_1).bind fun p31 =>
    (dUn .not p31.1).bind fun t32 =>
    (some (t32 : D)).bind fun t33 =>
    (gd t33 true (some (t4 : D))).bind fun t34 =>
    (gd t33 true (dBin tab .neq ty5 t34 (.int .u8 46))).bind fun t35 =>
    (dPick t33 t35 (.bool false)).bind fun t36 =>
    dIf t36
      ((some (.bool false : D)).bind fun t2_2 =>
      some (.ret, [t2_2, t4, (nth 2 ds), t27, t36], p31.2))
      ((dBin tab .add ty3 (nth 2 ds) (.int .i64 1)).bind fun t37 =>
    (some (t37 : D)).bind fun t26_1 =>
    some (.nrm, [(nth 0 ds), t4, t26_1, t27, t36], p31.2)))
      (some ((.ext 0), [(nth 0 ds), (nth 1 ds), (nth 2 ds), t27, (nth 4 ds)], h_1))
noncomputable def F1056 (t0 : D) (h : Hp) : Option (D × Hp) :=
  (some (.bool false : D)).bind fun t2 =>
  (some (t0 : D)).bind fun t5 =>
  (dBin tab .eql ty9 t5 (.str [])).bind fun t6 =>
  (some (t6 : D)).bind fun t7 =>
  (gd t7 false (some (t0 : D))).bind fun t8 =>
  (gd t7 false (dLenT tab ty9 t8)).bind fun t9 =>
  (gd t7 false (dBin tab .gtr ty3 t9 (.int .i64 32))).bind fun t10 =>
  (dPick t7 (.bool true) t10).bind fun t11 =>
  (some (t11 : D)).bind fun t12 =>
  (gd t12 false (some (t0 : D))).bind fun t13 =>
  (gd t12 false (dIndex tab ty9 t13 (.int .i64 0))).bind fun t14 =>
  (gdW t12 false h (R fn1061 [t14] h)).bind fun p15 =>
  (gd t12 false (dUn .not p15.1)).bind fun t16 =>
  (gd t12 false (some (t16 : D))).bind fun t17 =>
  (gd t17 true (some (t0 : D))).bind fun t18 =>
  (gd t17 true (dIndex tab ty9 t18 (.int .i64 0))).bind fun t19 =>
  (gd t17 true (dBin tab .neq ty5 t19 (.int .u8 95))).bind fun t20 =>
  (gd t12 false (dPick t17 t20 (.bool false))).bind fun t21 =>
  (dPick t12 (.bool true) t21).bind fun t22 =>
  dIf t22
    ((some (.bool false : D)).bind fun t2_1 =>
    ((some (t2_1 : D)).bind fun d => (some ([] : List D)).bind fun ds => some (d :: ds)).bind fun ds => scope h p15.2 (mkRes ds))
    ((some (t0 : D)).bind fun t23 =>
  (wBytes ty5 p15.2 t23).bind fun p24 =>
  (dLenT tab ty22 p24.1).bind fun t25 =>
  (some (.int .i64 0 : D)).bind fun t26 =>
  ((loopW (F1056_L0 p24 t25) [t2, .any, t26, .any, .any] p24.2).bind fun r =>
    some ((unblk 0 r.1), [(nth 0 r.2.1), (nth 1 r.2.1), (nth 2 r.2.1), (nth 3 r.2.1), (nth 4 r.2.1)], r.2.2)).bind fun r_1 =>
  toEnd r_1.1 ((some (.bool true : D)).bind fun t2_3 =>
  ((some (t2_3 : D)).bind fun d => (some ([] : List D)).bind fun ds => some (d :: ds)).bind fun ds => scope h r_1.2.2 (mkRes ds)) fun x => exEnd x (((some ((nth 0 r_1.2.1) : D)).bind fun d => (some ([] : List D)).bind fun ds => some (d :: ds)).bind fun ds => scope h r_1.2.2 (mkRes ds)))
theorem e1056 (t0 : D) (h : Hp) : R fn1056 [t0] h = F1056 t0 h :=
  (run_fn (X := X) (F := Fs) (fi := i72) (by kernel_rfl) _ _).trans (by kernel_rfl)
noncomputable def F1009 (t0 : D) (h : Hp) : Option (D × Hp) :=
  (some (.nils : D)).bind fun t2 =>
  (some (t0 : D)).bind fun t3 =>
  (dBin tab .eql ty29 t3 (.nils)).bind fun t4 =>
  dIf t4
    ((some (.nils : D)).bind fun t2_1 =>
    ((some (t2_1 : D)).bind fun d => (some ([] : List D)).bind fun ds => some (d :: ds)).bind fun ds => some (mkRes ds, h))
    ((pLitF tab ty29 0 [] []).bind fun t5 =>
  (some (t0 : D)).bind fun t6 =>
  (dAppend tab h ty29 ty29 t5 t6).bind fun p7 =>
  (some (p7.1 : D)).bind fun t2_2 =>
  ((some (t2_2 : D)).bind fun d => (some ([] : List D)).bind fun ds => some (d :: ds)).bind fun ds => some (mkRes ds, p7.2))
theorem e1009 (t0 : D) (h : Hp) : R fn1009 [t0] h = F1009 t0 h :=
  (run_fn (X := X) (F := Fs) (fi := i73) (by kernel_rfl) _ _).trans (by kernel_rfl)
noncomputable def F1057 (t0 : D) (t1 : D) (h : Hp) : Option (D × Hp) :=
  (some (t0 : D)).bind fun t4 =>
  (some (t0 : D)).bind fun t5 =>
  (dLenT tab ty29 t5).bind fun t6 =>
  (some (t1 : D)).bind fun t7 =>
  (R fn1063 [t4, t6, t7] h).bind fun p8 =>
  (some ([] : List D)).bind fun ds => some (mkRes ds, p8.2)
theorem e1057 (t0 : D) (t1 : D) (h : Hp) : R fn1057 [t0, t1] h = F1057 t0 t1 h :=
  (run_fn (X := X) (F := Fs) (fi := i74) (by kernel_rfl) _ _).trans (by kernel_rfl)
noncomputable def F1058 (t0 : D) (t1 : D) (h : Hp) : Option (D × Hp) :=
  (pBoxF t0).bind fun t2 =>
  (pBoxF t1).bind fun t3 =>
  (some (.int .i64 0 : D)).bind fun t4 =>
  (dFieldAddr tab ty109 0 t2).bind fun t5 =>
  (dLoad tab h ty9 t5).bind fun t6 =>
  (dFieldAddr tab ty109 0 t3).bind fun t7 =>
  (dLoad tab h ty9 t7).bind fun t8 =>
  (R fn1059 [t6, t8] h).bind fun p9 =>
  (some (p9.1 : D)).bind fun t4_1 =>
  ((some (t4_1 : D)).bind fun d => (some ([] : List D)).bind fun ds => some (d :: ds)).bind fun ds => some (mkRes ds, p9.2)
theorem e1058 (t0 : D) (t1 : D) (h : Hp) : R fn1058 [t0, t1] h = F1058 t0 t1 h :=
  (run_fn (X := X) (F := Fs) (fi := i75) (by kernel_rfl) _ _).trans (by kernel_rfl)
noncomputable def F1059 (t0 : D) (t1 : D) (h : Hp) : Option (D × Hp) :=
  (some (.int .i64 0 : D)).bind fun t4 =>
  (some (t0 : D)).bind fun t5 =>
  (some (t1 : D)).bind fun t6 =>
  (R fn1064 [t5, t6] h).bind fun p7 =>
  (some (p7.1 : D)).bind fun t4_1 =>
  ((some (t4_1 : D)).bind fun d => (some ([] : List D)).bind fun ds => some (d :: ds)).bind fun ds => some (mkRes ds, p7.2)
theorem e1059 (t0 : D) (t1 : D) (h : Hp) : R fn1059 [t0, t1] h = F1059 t0 t1 h :=
  (run_fn (X := X) (F := Fs) (fi := i76) (by kernel_rfl) _ _).trans (by kernel_rfl)
/-- a loop: slots 4 5 8 9 16 -/
noncomputable def F1060_L0 (t0 : D) (t1 : D) (t7 : D) (ds : List D) (h_1 : Hp) : Option Out :=
    (dBin tab .lss ty3 (nth 2 ds) t7).bind fun t9 =>
    dIf t9
      ((some ((nth 2 ds) : D)).bind fun t10 =>
    (some (t10 : D)).bind fun t5 =>
    (some (t1 : D)).bind fun t11 =>
    (some (t0 : D)).bind fun t12 =>
    (some (t5 : D)).bind fun t13 =>
    (dIndexAddr tab ty29 t12 t13).bind fun t14 =>
    (dLoad tab h_1 ty109 t14).bind fun t15 =>
    (callV R t11 [t15] h_1).bind fun p16 =>
    dIf p16.1
      ((some (t5 : D)).bind fun t17 =>
      (some (t17 : D)).bind fun t4_1 =>
      some (.ret, [t4_1, t5, (nth 2 ds), t9, p16.1], p16.2))
      ((dBin tab .add ty3 (nth 2 ds) (.int .i64 1)).bind fun t18 =>
    (some (t18 : D)).bind fun t8_1 =>
    some (.nrm, [(nth 0 ds), t5, t8_1, t9, p16.1], p16.2)))
      (some ((.ext 0), [(nth 0 ds), (nth 1 ds), (nth 2 ds), t9, (nth 4 ds)], h_1))
noncomputable def F1060 (t0 : D) (t1 : D) (h : Hp) : Option (D × Hp) :=
  (some (.int .i64 0 : D)).bind fun t4 =>
  (some (t0 : D)).bind fun t6 =>
  (dLenT tab ty29 t6).bind fun t7 =>
  (some (.int .i64 0 : D)).bind fun t8 =>
  ((loopW (F1060_L0 t0 t1 t7) [t4, .any, t8, .any, .any] h).bind fun r =>
    some ((unblk 0 r.1), [(nth 0 r.2.1), (nth 1 r.2.1), (nth 2 r.2.1), (nth 3 r.2.1), (nth 4 r.2.1)], r.2.2)).bind fun r_1 =>
  toEnd r_1.1 ((some (.int .i64 (-1) : D)).bind fun t4_2 =>
  ((some (t4_2 : D)).bind fun d => (some ([] : List D)).bind fun ds => some (d :: ds)).bind fun ds => some (mkRes ds, r_1.2.2)) fun x => exEnd x (((some ((nth 0 r_1.2.1) : D)).bind fun d => (some ([] : List D)).bind fun ds => some (d :: ds)).bind fun ds => some (mkRes ds, r_1.2.2))
theorem e1060 (t0 : D) (t1 : D) (h : Hp) : R fn1060 [t0, t1] h = F1060 t0 t1 h :=
  (run_fn (X := X) (F := Fs) (fi := i77) (by kernel_rfl) _ _).trans (by kernel_rfl)
noncomputable def F1014 (t0 : D) (h : Hp) : Option (D × Hp) :=
  (some (.bool false : D)).bind fun t2 =>
  (some (t0 : D)).bind fun t3 =>
  (dBin tab .geq ty3 t3 (.int .i64 1)).bind fun t4 =>
  (some (t4 : D)).bind fun t5 =>
  (gd t5 true (some (t0 : D))).bind fun t6 =>
  (gd t5 true (dBin tab .leq ty3 t6 (.int .i64 5040))).bind fun t7 =>
  (dPick t5 t7 (.bool false)).bind fun t8 =>
  (some (t8 : D)).bind fun t9 =>
  (gd t9 true (some (t0 : D))).bind fun t10 =>
  (gd t9 true (dBin tab .rem ty3 (.int .i64 5040) t10)).bind fun t11 =>
  (gd t9 true (dBin tab .eql ty3 t11 (.int .i64 0))).bind fun t12 =>
  (dPick t9 t12 (.bool false)).bind fun t13 =>
  (some (t13 : D)).bind fun t2_1 =>
  ((some (t2_1 : D)).bind fun d => (some ([] : List D)).bind fun ds => some (d :: ds)).bind fun ds => some (mkRes ds, h)
theorem e1014 (t0 : D) (h : Hp) : R fn1014 [t0] h = F1014 t0 h :=
  (run_fn (X := X) (F := Fs) (fi := i78) (by kernel_rfl) _ _).trans (by kernel_rfl)
/-- a loop: slots 2 3 4 14 23 -/
noncomputable def F1015_L0 (t0 : D) (ds : List D) (h_1 : Hp) : Option Out :=
    (some ((nth 2 ds) : D)).bind fun t11 =>
    (some (t0 : D)).bind fun t12 =>
    (dLenT tab ty29 t12).bind fun t13 =>
    (dBin tab .lss ty3 t11 t13).bind fun t14 =>
    dIf t14
      ((some (t0 : D)).bind fun t17 =>
    (some ((nth 2 ds) : D)).bind fun t18 =>
    (dIndexAddr tab ty29 t17 t18).bind fun t19 =>
    (dFieldAddr tab ty109 0 t19).bind fun t20 =>
    (dLoad tab h_1 ty9 t20).bind fun t21 =>
    (R fn1018 [t21] h_1).bind fun p22 =>
    (dUn .not p22.1).bind fun t23 =>
    dIf t23
      ((some (.nils : D)).bind fun t2_2 =>
      (some (.int .i64 6 : D)).bind fun t3_2 =>
      some (.ret, [t2_2, t3_2, (nth 2 ds), t14, t23], p22.2))
      ((some ((nth 2 ds) : D)).bind fun t15 =>
    (dBin tab .add ty3 t15 (.int .i64 1)).bind fun t16 =>
    (some (t16 : D)).bind fun t4_1 =>
    some (.nrm, [(nth 0 ds), (nth 1 ds), t4_1, t14, t23], p22.2)))
      (some ((.ext 0), [(nth 0 ds), (nth 1 ds), (nth 2 ds), t14, (nth 4 ds)], h_1))
/-- a loop: slots 7 54 -/
noncomputable def F1015_L2 (t0 : D) (ds_1 : List D) (t5_1 : D) (ds_2 : List D) (h_3 : Hp) : Option Out :=
    (some ((nth 0 ds_2) : D)).bind fun t39 =>
    (dBin tab .gtr ty3 t39 (.int .i64 0)).bind fun t40 =>
    (some (t40 : D)).bind fun t41 =>
    (gd t41 true (some (t5_1 : D))).bind fun t42 =>
    (gd t41 true (some ((nth 0 ds_2) : D))).bind fun t43 =>
    (gd t41 true (dBin tab .sub ty3 t43 (.int .i64 1))).bind fun t44 =>
    (gd t41 true (dIndexAddr tab ty29 t42 t44)).bind fun t45 =>
    (gd t41 true (dFieldAddr tab ty109 0 t45)).bind fun t46 =>
    (gd t41 true (dLoad tab h_3 ty9 t46)).bind fun t47 =>
    (gd t41 true (some (t0 : D))).bind fun t48 =>
    (gd t41 true (some ((nth 3 ds_1) : D))).bind fun t49 =>
    (gd t41 true (dIndexAddr tab ty29 t48 t49)).bind fun t50 =>
    (gd t41 true (dFieldAddr tab ty109 0 t50)).bind fun t51 =>
    (gd t41 true (dLoad tab h_3 ty9 t51)).bind fun t52 =>
    (gd t41 true (dBin tab .gtr ty9 t47 t52)).bind fun t53 =>
    (dPick t41 t53 (.bool false)).bind fun t54 =>
    dIf t54
      ((some (t5_1 : D)).bind fun t55 =>
    (some ((nth 0 ds_2) : D)).bind fun t56 =>
    (some (t5_1 : D)).bind fun t57 =>
    (some ((nth 0 ds_2) : D)).bind fun t58 =>
    (dBin tab .sub ty3 t58 (.int .i64 1)).bind fun t59 =>
    (dIndexAddr tab ty29 t57 t59).bind fun t60 =>
    (dLoad tab h_3 ty109 t60).bind fun t61 =>
    (dIndexAddr tab ty29 t55 t56).bind fun t62 =>
    ((dStore tab h_3 ty109 t62 t61).bind fun h' => some ((.und : D), h')).bind fun p908 =>
    (some ((nth 0 ds_2) : D)).bind fun t63 =>
    (dBin tab .sub ty3 t63 (.int .i64 1)).bind fun t64 =>
    (some (t64 : D)).bind fun t7_1 =>
    some (.nrm, [t7_1, t54], p908.2))
      (some ((.ext 4), [(nth 0 ds_2), t54], h_3))
/-- a loop: slots 2 3 5 6 7 27 54 87 -/
noncomputable def F1015_L1 (t0 : D) (ds_1 : List D) (h_2 : Hp) : Option Out :=
    (some ((nth 3 ds_1) : D)).bind fun t24 =>
    (some (t0 : D)).bind fun t25 =>
    (dLenT tab ty29 t25).bind fun t26 =>
    (dBin tab .lss ty3 t24 t26).bind fun t27 =>
    dIf t27
      ((some ((nth 2 ds_1) : D)).bind fun t30 =>
    (dLenT tab ty29 t30).bind fun t31 =>
    (some (t31 : D)).bind fun t7 =>
    (some ((nth 2 ds_1) : D)).bind fun t32 =>
    (some (t0 : D)).bind fun t33 =>
    (some ((nth 3 ds_1) : D)).bind fun t34 =>
    (dIndexAddr tab ty29 t33 t34).bind fun t35 =>
    (dLoad tab h_2 ty109 t35).bind fun t36 =>
    (pLitF tab ty29 1 [0] [t36]).bind fun t37 =>
    (dAppend tab h_2 ty29 ty29 t32 t37).bind fun p38 =>
    (some (p38.1 : D)).bind fun t5_1 =>
    ((loopW (F1015_L2 t0 ds_1 t5_1) [t7, (nth 6 ds_1)] p38.2).bind fun r_3 =>
      some ((unblk 4 r_3.1), [(nth 0 r_3.2.1), (nth 1 r_3.2.1)], r_3.2.2)).bind fun r_4 =>
    toEnd r_4.1 ((some (t5_1 : D)).bind fun t65 =>
    (some ((nth 0 r_4.2.1) : D)).bind fun t66 =>
    (some (t0 : D)).bind fun t67 =>
    (some ((nth 3 ds_1) : D)).bind fun t68 =>
    (dIndexAddr tab ty29 t67 t68).bind fun t69 =>
    (dLoad tab r_4.2.2 ty109 t69).bind fun t70 =>
    (dIndexAddr tab ty29 t65 t66).bind fun t71 =>
    ((dStore tab r_4.2.2 ty109 t71 t70).bind fun h' => some ((.und : D), h')).bind fun p907 =>
    (some ((nth 0 r_4.2.1) : D)).bind fun t72 =>
    (dBin tab .gtr ty3 t72 (.int .i64 0)).bind fun t73 =>
    (some (t73 : D)).bind fun t74 =>
    (gd t74 true (some (t5_1 : D))).bind fun t75 =>
    (gd t74 true (some ((nth 0 r_4.2.1) : D))).bind fun t76 =>
    (gd t74 true (dBin tab .sub ty3 t76 (.int .i64 1))).bind fun t77 =>
    (gd t74 true (dIndexAddr tab ty29 t75 t77)).bind fun t78 =>
    (gd t74 true (dFieldAddr tab ty109 0 t78)).bind fun t79 =>
    (gd t74 true (dLoad tab p907.2 ty9 t79)).bind fun t80 =>
    (gd t74 true (some (t0 : D))).bind fun t81 =>
    (gd t74 true (some ((nth 3 ds_1) : D))).bind fun t82 =>
    (gd t74 true (dIndexAddr tab ty29 t81 t82)).bind fun t83 =>
    (gd t74 true (dFieldAddr tab ty109 0 t83)).bind fun t84 =>
    (gd t74 true (dLoad tab p907.2 ty9 t84)).bind fun t85 =>
    (gd t74 true (dBin tab .eql ty9 t80 t85)).bind fun t86 =>
    (dPick t74 t86 (.bool false)).bind fun t87 =>
    dIf t87
      ((some (.nils : D)).bind fun t2_3 =>
      (some (.int .i64 7 : D)).bind fun t3_3 =>
      some (.ret, [t2_3, t3_3, t5_1, (nth 3 ds_1), (nth 0 r_4.2.1), t27, (nth 1 r_4.2.1), t87], p907.2))
      ((some ((nth 3 ds_1) : D)).bind fun t28 =>
    (dBin tab .add ty3 t28 (.int .i64 1)).bind fun t29 =>
    (some (t29 : D)).bind fun t6_1 =>
    some (.nrm, [(nth 0 ds_1), (nth 1 ds_1), t5_1, t6_1, (nth 0 r_4.2.1), t27, (nth 1 r_4.2.1), t87], p907.2))) fun x_1 => toEnd (unblk 3 x_1) ((some ((nth 3 ds_1) : D)).bind fun t28_1 =>
    (dBin tab .add ty3 t28_1 (.int .i64 1)).bind fun t29_1 =>
    (some (t29_1 : D)).bind fun t6_2 =>
    some (.nrm, [(nth 0 ds_1), (nth 1 ds_1), t5_1, t6_2, (nth 0 r_4.2.1), t27, (nth 1 r_4.2.1), (nth 7 ds_1)], r_4.2.2)) fun x_2 => some (x_2, [(nth 0 ds_1), (nth 1 ds_1), t5_1, (nth 3 ds_1), (nth 0 r_4.2.1), t27, (nth 1 r_4.2.1), (nth 7 ds_1)], r_4.2.2))
      (some ((.ext 2), [(nth 0 ds_1), (nth 1 ds_1), (nth 2 ds_1), (nth 3 ds_1), (nth 4 ds_1), t27, (nth 6 ds_1), (nth 7 ds_1)], h_2))
noncomputable def F1015 (t0 : D) (h : Hp) : Option (D × Hp) :=
  (some (.nils : D)).bind fun t2 =>
  (some (.int .i64 0 : D)).bind fun t3 =>
  (some (t0 : D)).bind fun t8 =>
  (dLenT tab ty29 t8).bind fun t9 =>
  (dBin tab .gtr ty3 t9 (.int .i64 32)).bind fun t10 =>
  dIf t10
    ((some (.nils : D)).bind fun t2_1 =>
    (some (.int .i64 4 : D)).bind fun t3_1 =>
    ((some (t2_1 : D)).bind fun d => ((some (t3_1 : D)).bind fun d => (some ([] : List D)).bind fun ds => some (d :: ds)).bind fun ds => some (d :: ds)).bind fun ds => scope h h (mkRes ds))
    ((some (.int .i64 0 : D)).bind fun t4 =>
  ((loopW (F1015_L0 t0) [t2, t3, t4, .any, .any] h).bind fun r =>
    some ((unblk 0 r.1), [(nth 0 r.2.1), (nth 1 r.2.1), (nth 2 r.2.1), (nth 3 r.2.1), (nth 4 r.2.1)], r.2.2)).bind fun r_1 =>
  toEnd r_1.1 ((some (.nils : D)).bind fun t5 =>
  (some (.int .i64 0 : D)).bind fun t6 =>
  ((loopW (F1015_L1 t0) [(nth 0 r_1.2.1), (nth 1 r_1.2.1), t5, t6, .any, .any, .any, .any] r_1.2.2).bind fun r_2 =>
    some ((unblk 2 r_2.1), [(nth 0 r_2.2.1), (nth 1 r_2.2.1), (nth 2 r_2.2.1), (nth 3 r_2.2.1), (nth 4 r_2.2.1), (nth 5 r_2.2.1), (nth 6 r_2.2.1), (nth 7 r_2.2.1)], r_2.2.2)).bind fun r_5 =>
  toEnd r_5.1 ((some ((nth 2 r_5.2.1) : D)).bind fun t88 =>
  (some (t88 : D)).bind fun t2_4 =>
  (some (.int .i64 0 : D)).bind fun t3_4 =>
  ((some (t2_4 : D)).bind fun d => ((some (t3_4 : D)).bind fun d => (some ([] : List D)).bind fun ds => some (d :: ds)).bind fun ds => some (d :: ds)).bind fun ds => scope h r_5.2.2 (mkRes ds)) fun x_3 => exEnd x_3 (((some ((nth 0 r_5.2.1) : D)).bind fun d => ((some ((nth 1 r_5.2.1) : D)).bind fun d => (some ([] : List D)).bind fun ds => some (d :: ds)).bind fun ds => some (d :: ds)).bind fun ds => scope h r_5.2.2 (mkRes ds))) fun x => exEnd x (((some ((nth 0 r_1.2.1) : D)).bind fun d => ((some ((nth 1 r_1.2.1) : D)).bind fun d => (some ([] : List D)).bind fun ds => some (d :: ds)).bind fun ds => some (d :: ds)).bind fun ds => scope h r_1.2.2 (mkRes ds)))
theorem e1015 (t0 : D) (h : Hp) : R fn1015 [t0] h = F1015 t0 h :=
  (run_fn (X := X) (F := Fs) (fi := i79) (by kernel_rfl) _ _).trans (by kernel_rfl)
noncomputable def F1061 (t0 : D) (h : Hp) : Option (D × Hp) :=
  (some (.bool false : D)).bind fun t2 =>
  (some (t0 : D)).bind fun t3 =>
  (dIndexAddr tab ty1044 (.fptr kin) t3).bind fun t4 =>
  (dLoad tab h ty5 t4).bind fun t5 =>
  (dBin tab .and ty5 t5 (.int .u8 2)).bind fun t6 =>
  (dBin tab .neq ty5 t6 (.int .u8 0)).bind fun t7 =>
  (some (t7 : D)).bind fun t2_1 =>
  ((some (t2_1 : D)).bind fun d => (some ([] : List D)).bind fun ds => some (d :: ds)).bind fun ds => some (mkRes ds, h)
theorem e1061 (t0 : D) (h : Hp) : R fn1061 [t0] h = F1061 t0 h :=
  (run_fn (X := X) (F := Fs) (fi := i80) (by kernel_rfl) _ _).trans (by kernel_rfl)
noncomputable def F1062 (t0 : D) (h : Hp) : Option (D × Hp) :=
  (some (.bool false : D)).bind fun t2 =>
  (some (t0 : D)).bind fun t3 =>
  (dIndexAddr tab ty1044 (.fptr kin) t3).bind fun t4 =>
  (dLoad tab h ty5 t4).bind fun t5 =>
  (dBin tab .and ty5 t5 (.int .u8 3)).bind fun t6 =>
  (dBin tab .neq ty5 t6 (.int .u8 0)).bind fun t7 =>
  (some (t7 : D)).bind fun t8 =>
  (gd t8 false (some (t0 : D))).bind fun t9 =>
  (gd t8 false (dBin tab .eql ty5 t9 (.int .u8 95))).bind fun t10 =>
  (dPick t8 (.bool true) t10).bind fun t11 =>
  (some (t11 : D)).bind fun t2_1 =>
  ((some (t2_1 : D)).bind fun d => (some ([] : List D)).bind fun ds => some (d :: ds)).bind fun ds => some (mkRes ds, h)
theorem e1062 (t0 : D) (h : Hp) : R fn1062 [t0] h = F1062 t0 h :=
  (run_fn (X := X) (F := Fs) (fi := i81) (by kernel_rfl) _ _).trans (by kernel_rfl)
/-- a loop: slots 7 8 13 -/
noncomputable def F1063_L0 (t0 : D) (t1 : D) (t2 : D) (t6 : D) (ds : List D) (h_1 : Hp) : Option Out :=
    (some ((nth 1 ds) : D)).bind fun t11 =>
    (some (t1 : D)).bind fun t12 =>
    (dBin tab .leq ty3 t11 t12).bind fun t13 =>
    dIf t13
      ((some (t0 : D)).bind fun t14 =>
    (some ((nth 0 ds) : D)).bind fun t15 =>
    (some ((nth 1 ds) : D)).bind fun t16 =>
    (some (t2 : D)).bind fun t17 =>
    (R fn1065 [t14, t15, t16, t17] h_1).bind fun p18 =>
    (some ((nth 1 ds) : D)).bind fun t19 =>
    (some (t19 : D)).bind fun t7_1 =>
    (some ((nth 1 ds) : D)).bind fun t20 =>
    (some (t6 : D)).bind fun t21 =>
    (dBin tab .add ty3 t20 t21).bind fun t22 =>
    (some (t22 : D)).bind fun t8_1 =>
    some (.nrm, [t7_1, t8_1, t13], p18.2))
      (some ((.ext 0), [(nth 0 ds), (nth 1 ds), t13], h_1))
/-- a loop: slots 7 8 35 -/
noncomputable def F1063_L2 (t0 : D) (t1 : D) (t2 : D) (ds_1 : List D) (ds_2 : List D) (h_3 : Hp) : Option Out :=
    (some ((nth 1 ds_2) : D)).bind fun t33 =>
    (some (t1 : D)).bind fun t34 =>
    (dBin tab .leq ty3 t33 t34).bind fun t35 =>
    dIf t35
      ((some (t0 : D)).bind fun t36 =>
    (some ((nth 0 ds_2) : D)).bind fun t37 =>
    (some ((nth 0 ds_2) : D)).bind fun t38 =>
    (some ((nth 0 ds_1) : D)).bind fun t39 =>
    (dBin tab .add ty3 t38 t39).bind fun t40 =>
    (some ((nth 1 ds_2) : D)).bind fun t41 =>
    (some (t2 : D)).bind fun t42 =>
    (R fn1066 [t36, t37, t40, t41, t42] h_3).bind fun p43 =>
    (some ((nth 1 ds_2) : D)).bind fun t44 =>
    (some (t44 : D)).bind fun t7_3 =>
    (some ((nth 1 ds_2) : D)).bind fun t45 =>
    (some ((nth 0 ds_1) : D)).bind fun t46 =>
    (dBin tab .mul ty3 (.int .i64 2) t46).bind fun t47 =>
    (dBin tab .add ty3 t45 t47).bind fun t48 =>
    (some (t48 : D)).bind fun t8_3 =>
    some (.nrm, [t7_3, t8_3, t35], p43.2))
      (some ((.ext 4), [(nth 0 ds_2), (nth 1 ds_2), t35], h_3))
/-- a loop: slots 6 7 8 9 30 35 54 -/
noncomputable def F1063_L1 (t0 : D) (t1 : D) (t2 : D) (ds_1 : List D) (h_2 : Hp) : Option Out :=
    (some ((nth 0 ds_1) : D)).bind fun t28 =>
    (some (t1 : D)).bind fun t29 =>
    (dBin tab .lss ty3 t28 t29).bind fun t30 =>
    dIf t30
      ((some ((nth 0 ds_1) : D)).bind fun t31 =>
    (dBin tab .mul ty3 (.int .i64 2) t31).bind fun t32 =>
    (some (.int .i64 0 : D)).bind fun t7_2 =>
    (some (t32 : D)).bind fun t8_2 =>
    ((loopW (F1063_L2 t0 t1 t2 ds_1) [t7_2, t8_2, (nth 5 ds_1)] h_2).bind fun r_3 =>
      some ((unblk 4 r_3.1), [(nth 0 r_3.2.1), (nth 1 r_3.2.1), (nth 2 r_3.2.1)], r_3.2.2)).bind fun r_4 =>
    toEnd r_4.1 ((some ((nth 0 r_4.2.1) : D)).bind fun t49 =>
    (some ((nth 0 ds_1) : D)).bind fun t50 =>
    (dBin tab .add ty3 t49 t50).bind fun t51 =>
    (some (t51 : D)).bind fun t9 =>
    (some (t9 : D)).bind fun t52 =>
    (some (t1 : D)).bind fun t53 =>
    (dBin tab .lss ty3 t52 t53).bind fun t54 =>
    (dIf t54
      ((some (t0 : D)).bind fun t55 =>
      (some ((nth 0 r_4.2.1) : D)).bind fun t56 =>
      (some (t9 : D)).bind fun t57 =>
      (some (t1 : D)).bind fun t58 =>
      (some (t2 : D)).bind fun t59 =>
      (R fn1066 [t55, t56, t57, t58, t59] r_4.2.2).bind fun p60 =>
      some (.nrm, ([] : List D), p60.2))
      (some (.nrm, ([] : List D), r_4.2.2))).bind fun r_5 =>
    toEnd r_5.1 ((some ((nth 0 ds_1) : D)).bind fun t61 =>
    (dBin tab .mul ty3 t61 (.int .i64 2)).bind fun t62 =>
    (some (t62 : D)).bind fun t6_1 =>
    some (.nrm, [t6_1, (nth 0 r_4.2.1), (nth 1 r_4.2.1), t9, t30, (nth 2 r_4.2.1), t54], r_5.2.2)) fun x_2 => some ((unblk 3 x_2), [(nth 0 ds_1), (nth 0 r_4.2.1), (nth 1 r_4.2.1), t9, t30, (nth 2 r_4.2.1), t54], r_5.2.2)) fun x_1 => some ((unblk 3 x_1), [(nth 0 ds_1), (nth 0 r_4.2.1), (nth 1 r_4.2.1), (nth 3 ds_1), t30, (nth 2 r_4.2.1), (nth 6 ds_1)], r_4.2.2))
      (some ((.ext 2), [(nth 0 ds_1), (nth 1 ds_1), (nth 2 ds_1), (nth 3 ds_1), t30, (nth 5 ds_1), (nth 6 ds_1)], h_2))
noncomputable def F1063 (t0 : D) (t1 : D) (t2 : D) (h : Hp) : Option (D × Hp) :=
  (some (.int .i64 20 : D)).bind fun t6 =>
  (some (t6 : D)).bind fun t10 =>
  (some (.int .i64 0 : D)).bind fun t7 =>
  (some (t10 : D)).bind fun t8 =>
  ((loopW (F1063_L0 t0 t1 t2 t6) [t7, t8, .any] h).bind fun r =>
    some ((unblk 0 r.1), [(nth 0 r.2.1), (nth 1 r.2.1), (nth 2 r.2.1)], r.2.2)).bind fun r_1 =>
  toEnd r_1.1 ((some (t0 : D)).bind fun t23 =>
  (some ((nth 0 r_1.2.1) : D)).bind fun t24 =>
  (some (t1 : D)).bind fun t25 =>
  (some (t2 : D)).bind fun t26 =>
  (R fn1065 [t23, t24, t25, t26] r_1.2.2).bind fun p27 =>
  ((loopW (F1063_L1 t0 t1 t2) [t6, (nth 0 r_1.2.1), (nth 1 r_1.2.1), .any, .any, .any, .any] p27.2).bind fun r_2 =>
    some ((unblk 2 r_2.1), [(nth 0 r_2.2.1), (nth 1 r_2.2.1), (nth 2 r_2.2.1), (nth 3 r_2.2.1), (nth 4 r_2.2.1), (nth 5 r_2.2.1), (nth 6 r_2.2.1)], r_2.2.2)).bind fun r_6 =>
  exEnd r_6.1 ((some ([] : List D)).bind fun ds => some (mkRes ds, r_6.2.2))) fun x => exEnd x ((some ([] : List D)).bind fun ds => some (mkRes ds, r_1.2.2))
theorem e1063 (t0 : D) (t1 : D) (t2 : D) (h : Hp) : R fn1063 [t0, t1, t2] h = F1063 t0 t1 t2 h :=
  (run_fn (X := X) (F := Fs) (fi := i82) (by kernel_rfl) _ _).trans (by kernel_rfl)
noncomputable def F1064 (t0 : D) (t1 : D) (h : Hp) : Option (D × Hp) :=
  (some (.int .i64 0 : D)).bind fun t4 =>
  (some (t0 : D)).bind fun t5 =>
  (some (t1 : D)).bind fun t6 =>
  (R fn1067 [t5, t6] h).bind fun p7 =>
  (some (p7.1 : D)).bind fun t4_1 =>
  ((some (t4_1 : D)).bind fun d => (some ([] : List D)).bind fun ds => some (d :: ds)).bind fun ds => some (mkRes ds, p7.2)
theorem e1064 (t0 : D) (t1 : D) (h : Hp) : R fn1064 [t0, t1] h = F1064 t0 t1 h :=
  (run_fn (X := X) (F := Fs) (fi := i83) (by kernel_rfl) _ _).trans (by kernel_rfl)
/-- a loop: slots 2 3 26 39 -/
noncomputable def F1018_L0 (t0 : D) (ds : List D) (h_1 : Hp) : Option Out :=
    (some ((nth 1 ds) : D)).bind fun t23 =>
    (some (t0 : D)).bind fun t24 =>
    (dLenT tab ty9 t24).bind fun t25 =>
    (dBin tab .lss ty3 t23 t25).bind fun t26 =>
    dIf t26
      ((some (t0 : D)).bind fun t29 =>
    (some ((nth 1 ds) : D)).bind fun t30 =>
    (dIndex tab ty9 t29 t30).bind fun t31 =>
    (R fn1020 [t31] h_1).bind fun p32 =>
    (dUn .not p32.1).bind fun t33 =>
    (some (t33 : D)).bind fun t34 =>
    (gd t34 true (some (t0 : D))).bind fun t35 =>
    (gd t34 true (some ((nth 1 ds) : D))).bind fun t36 =>
    (gd t34 true (dIndex tab ty9 t35 t36)).bind fun t37 =>
    (gd t34 true (dBin tab .neq ty5 t37 (.int .u8 46))).bind fun t38 =>
    (dPick t34 t38 (.bool false)).bind fun t39 =>
    dIf t39
      ((some (.bool false : D)).bind fun t2_2 =>
      some (.ret, [t2_2, (nth 1 ds), t26, t39], p32.2))
      ((some ((nth 1 ds) : D)).bind fun t27 =>
    (dBin tab .add ty3 t27 (.int .i64 1)).bind fun t28 =>
    (some (t28 : D)).bind fun t3_1 =>
    some (.nrm, [(nth 0 ds), t3_1, t26, t39], p32.2)))
      (some ((.ext 0), [(nth 0 ds), (nth 1 ds), t26, (nth 3 ds)], h_1))
noncomputable def F1018 (t0 : D) (h : Hp) : Option (D × Hp) :=
  (some (.bool false : D)).bind fun t2 =>
  (some (t0 : D)).bind fun t4 =>
  (dLenT tab ty9 t4).bind fun t5 =>
  (dBin tab .lss ty3 t5 (.int .i64 1)).bind fun t6 =>
  (some (t6 : D)).bind fun t7 =>
  (gd t7 false (some (t0 : D))).bind fun t8 =>
  (gd t7 false (dLenT tab ty9 t8)).bind fun t9 =>
  (gd t7 false (dBin tab .gtr ty3 t9 (.int .i64 32))).bind fun t10 =>
  (dPick t7 (.bool true) t10).bind fun t11 =>
  (some (t11 : D)).bind fun t12 =>
  (gd t12 false (some (t0 : D))).bind fun t13 =>
  (gd t12 false (dIndex tab ty9 t13 (.int .i64 0))).bind fun t14 =>
  (gdW t12 false h (R fn1019 [t14] h)).bind fun p15 =>
  (gd t12 false (dUn .not p15.1)).bind fun t16 =>
  (gd t12 false (some (t16 : D))).bind fun t17 =>
  (gd t17 true (some (t0 : D))).bind fun t18 =>
  (gd t17 true (dIndex tab ty9 t18 (.int .i64 0))).bind fun t19 =>
  (gd t17 true (dBin tab .neq ty5 t19 (.int .u8 95))).bind fun t20 =>
  (gd t12 false (dPick t17 t20 (.bool false))).bind fun t21 =>
  (dPick t12 (.bool true) t21).bind fun t22 =>
  dIf t22
    ((some (.bool false : D)).bind fun t2_1 =>
    ((some (t2_1 : D)).bind fun d => (some ([] : List D)).bind fun ds => some (d :: ds)).bind fun ds => some (mkRes ds, p15.2))
    ((some (.int .i64 0 : D)).bind fun t3 =>
  ((loopW (F1018_L0 t0) [t2, t3, .any, .any] p15.2).bind fun r =>
    some ((unblk 0 r.1), [(nth 0 r.2.1), (nth 1 r.2.1), (nth 2 r.2.1), (nth 3 r.2.1)], r.2.2)).bind fun r_1 =>
  toEnd r_1.1 ((some (.bool true : D)).bind fun t2_3 =>
  ((some (t2_3 : D)).bind fun d => (some ([] : List D)).bind fun ds => some (d :: ds)).bind fun ds => some (mkRes ds, r_1.2.2)) fun x => exEnd x (((some ((nth 0 r_1.2.1) : D)).bind fun d => (some ([] : List D)).bind fun ds => some (d :: ds)).bind fun ds => some (mkRes ds, r_1.2.2)))
theorem e1018 (t0 : D) (h : Hp) : R fn1018 [t0] h = F1018 t0 h :=
  (run_fn (X := X) (F := Fs) (fi := i84) (by kernel_rfl) _ _).trans (by kernel_rfl)
/-- a loop: slots 9 34 -/
noncomputable def F1065_L1 (t0 : D) (t1 : D) (t3 : D) (ds_1 : List D) (h_2 : Hp) : Option Out :=
    (some ((nth 0 ds_1) : D)).bind fun t18 =>
    (some (t1 : D)).bind fun t19 =>
    (dBin tab .gtr ty3 t18 t19).bind fun t20 =>
    (some (t20 : D)).bind fun t21 =>
    (gd t21 true (some (t3 : D))).bind fun t22 =>
    (gd t21 true (some (t0 : D))).bind fun t23 =>
    (gd t21 true (some ((nth 0 ds_1) : D))).bind fun t24 =>
    (gd t21 true (dIndexAddr tab ty29 t23 t24)).bind fun t25 =>
    (gd t21 true (dLoad tab h_2 ty109 t25)).bind fun t26 =>
    (gd t21 true (some (t0 : D))).bind fun t27 =>
    (gd t21 true (some ((nth 0 ds_1) : D))).bind fun t28 =>
    (gd t21 true (dBin tab .sub ty3 t28 (.int .i64 1))).bind fun t29 =>
    (gd t21 true (dIndexAddr tab ty29 t27 t29)).bind fun t30 =>
    (gd t21 true (dLoad tab h_2 ty109 t30)).bind fun t31 =>
    (gdW t21 true h_2 (callV R t22 [t26, t31] h_2)).bind fun p32 =>
    (gd t21 true (dBin tab .lss ty3 p32.1 (.int .i64 0))).bind fun t33 =>
    (dPick t21 t33 (.bool false)).bind fun t34 =>
    dIf t34
      ((some (t0 : D)).bind fun t37 =>
    (some ((nth 0 ds_1) : D)).bind fun t38 =>
    (some (t0 : D)).bind fun t39 =>
    (some ((nth 0 ds_1) : D)).bind fun t40 =>
    (dBin tab .sub ty3 t40 (.int .i64 1)).bind fun t41 =>
    (some (t0 : D)).bind fun t42 =>
    (some ((nth 0 ds_1) : D)).bind fun t43 =>
    (dBin tab .sub ty3 t43 (.int .i64 1)).bind fun t44 =>
    (dIndexAddr tab ty29 t42 t44).bind fun t45 =>
    (dLoad tab p32.2 ty109 t45).bind fun t46 =>
    (some (t0 : D)).bind fun t47 =>
    (some ((nth 0 ds_1) : D)).bind fun t48 =>
    (dIndexAddr tab ty29 t47 t48).bind fun t49 =>
    (dLoad tab p32.2 ty109 t49).bind fun t50 =>
    (dIndexAddr tab ty29 t37 t38).bind fun t51 =>
    ((dStore tab p32.2 ty109 t51 t46).bind fun h' => some ((.und : D), h')).bind fun p915 =>
    (dIndexAddr tab ty29 t39 t41).bind fun t52 =>
    ((dStore tab p915.2 ty109 t52 t50).bind fun h' => some ((.und : D), h')).bind fun p917 =>
    (some ((nth 0 ds_1) : D)).bind fun t35 =>
    (dBin tab .sub ty3 t35 (.int .i64 1)).bind fun t36 =>
    (some (t36 : D)).bind fun t9_1 =>
    some (.nrm, [t9_1, t34], p917.2))
      (some ((.ext 2), [(nth 0 ds_1), t34], p32.2))
/-- a loop: slots 8 9 14 34 -/
noncomputable def F1065_L0 (t0 : D) (t1 : D) (t2 : D) (t3 : D) (ds : List D) (h_1 : Hp) : Option Out :=
    (some ((nth 0 ds) : D)).bind fun t12 =>
    (some (t2 : D)).bind fun t13 =>
    (dBin tab .lss ty3 t12 t13).bind fun t14 =>
    dIf t14
      ((some ((nth 0 ds) : D)).bind fun t17 =>
    (some (t17 : D)).bind fun t9 =>
    ((loopW (F1065_L1 t0 t1 t3) [t9, (nth 3 ds)] h_1).bind fun r_1 =>
      some ((unblk 2 r_1.1), [(nth 0 r_1.2.1), (nth 1 r_1.2.1)], r_1.2.2)).bind fun r_2 =>
    toEnd (unblk 1 r_2.1) ((some ((nth 0 ds) : D)).bind fun t15 =>
    (dBin tab .add ty3 t15 (.int .i64 1)).bind fun t16 =>
    (some (t16 : D)).bind fun t8_1 =>
    some (.nrm, [t8_1, (nth 0 r_2.2.1), t14, (nth 1 r_2.2.1)], r_2.2.2)) fun x => some (x, [(nth 0 ds), (nth 0 r_2.2.1), t14, (nth 1 r_2.2.1)], r_2.2.2))
      (some ((.ext 0), [(nth 0 ds), (nth 1 ds), t14, (nth 3 ds)], h_1))
noncomputable def F1065 (t0 : D) (t1 : D) (t2 : D) (t3 : D) (h : Hp) : Option (D × Hp) :=
  (some (t1 : D)).bind fun t10 =>
  (dBin tab .add ty3 t10 (.int .i64 1)).bind fun t11 =>
  (some (t11 : D)).bind fun t8 =>
  ((loopW (F1065_L0 t0 t1 t2 t3) [t8, .any, .any, .any] h).bind fun r =>
    some ((unblk 0 r.1), [(nth 0 r.2.1), (nth 1 r.2.1), (nth 2 r.2.1), (nth 3 r.2.1)], r.2.2)).bind fun r_3 =>
  exEnd r_3.1 ((some ([] : List D)).bind fun ds => some (mkRes ds, r_3.2.2))
theorem e1065 (t0 : D) (t1 : D) (t2 : D) (t3 : D) (h : Hp) : R fn1065 [t0, t1, t2, t3] h = F1065 t0 t1 t2 t3 h :=
  (run_fn (X := X) (F := Fs) (fi := i85) (by kernel_rfl) _ _).trans (by kernel_rfl)
/-- a loop: slots 20 21 23 151 171 -/
noncomputable def F1066_L0 (a0 : D) (a4 : D) (t22 : D) (ds : List D) (h_3 : Hp) : Option Out :=
    (some ((nth 0 ds) : D)).bind fun t149 =>
    (some ((nth 1 ds) : D)).bind fun t150 =>
    (dBin tab .lss ty3 t149 t150).bind fun t151 =>
    dIf t151
      ((some ((nth 0 ds) : D)).bind fun t152 =>
    (some ((nth 1 ds) : D)).bind fun t153 =>
    (dBin tab .add ty3 t152 t153).bind fun t154 =>
    (dConv tab ty3 ty134 t154).bind fun t155 =>
    (dBin tab .shr ty134 t155 (.int .u64 1)).bind fun t156 =>
    (dConv tab ty134 ty3 t156).bind fun t157 =>
    (some (t157 : D)).bind fun t23 =>
    (some (a4 : D)).bind fun t158 =>
    (some (a0 : D)).bind fun t159 =>
    (some (t22 : D)).bind fun t160 =>
    (some (t23 : D)).bind fun t161 =>
    (dBin tab .sub ty3 t160 t161).bind fun t162 =>
    (dIndexAddr tab ty29 t159 t162).bind fun t163 =>
    (dLoad tab h_3 ty109 t163).bind fun t164 =>
    (some (a0 : D)).bind fun t165 =>
    (some (t23 : D)).bind fun t166 =>
    (dIndexAddr tab ty29 t165 t166).bind fun t167 =>
    (dLoad tab h_3 ty109 t167).bind fun t168 =>
    (callV R t158 [t164, t168] h_3).bind fun p169 =>
    (dBin tab .lss ty3 p169.1 (.int .i64 0)).bind fun t170 =>
    (dUn .not t170).bind fun t171 =>
    (dIf t171
      ((some (t23 : D)).bind fun t172 =>
      (dBin tab .add ty3 t172 (.int .i64 1)).bind fun t173 =>
      (some (t173 : D)).bind fun t20_3 =>
      some (.nrm, [t20_3, (nth 1 ds)], p169.2))
      ((some (t23 : D)).bind fun t174 =>
      (some (t174 : D)).bind fun t21_3 =>
      some (.nrm, [(nth 0 ds), t21_3], p169.2))).bind fun r_2 =>
    some ((unblk 9 r_2.1), [(nth 0 r_2.2.1), (nth 1 r_2.2.1), t23, t151, t171], r_2.2.2))
      (some ((.ext 8), [(nth 0 ds), (nth 1 ds), (nth 2 ds), t151, (nth 4 ds)], h_3))
/-- the rest -/
noncomputable def F1066_R1 (a0 : D) (a1 : D) (a2 : D) (a3 : D) (a4 : D) (h_2 : Hp) : Option (D × Hp) :=
    (some (a1 : D)).bind fun t129 =>
  (some (a3 : D)).bind fun t130 =>
  (dBin tab .add ty3 t129 t130).bind fun t131 =>
  (dConv tab ty3 ty134 t131).bind fun t132 =>
  (dBin tab .shr ty134 t132 (.int .u64 1)).bind fun t133 =>
  (dConv tab ty134 ty3 t133).bind fun t134 =>
  (some (t134 : D)).bind fun t18 =>
  (some (t18 : D)).bind fun t135 =>
  (some (a2 : D)).bind fun t136 =>
  (dBin tab .add ty3 t135 t136).bind fun t137 =>
  (some (t137 : D)).bind fun t19 =>
  (some (.int .i64 0 : D)).bind fun t20 =>
  (some (.int .i64 0 : D)).bind fun t21 =>
  (some (a2 : D)).bind fun t138 =>
  (some (t18 : D)).bind fun t139 =>
  (dBin tab .gtr ty3 t138 t139).bind fun t140 =>
  (dIf t140
    ((some (t19 : D)).bind fun t141 =>
    (some (a3 : D)).bind fun t142 =>
    (dBin tab .sub ty3 t141 t142).bind fun t143 =>
    (some (t143 : D)).bind fun t20_1 =>
    (some (t18 : D)).bind fun t144 =>
    (some (t144 : D)).bind fun t21_1 =>
    some (.nrm, [t20_1, t21_1], h_2))
    ((some (a1 : D)).bind fun t145 =>
    (some (t145 : D)).bind fun t20_2 =>
    (some (a2 : D)).bind fun t146 =>
    (some (t146 : D)).bind fun t21_2 =>
    some (.nrm, [t20_2, t21_2], h_2))).bind fun r =>
  toEnd r.1 ((some (t19 : D)).bind fun t147 =>
  (dBin tab .sub ty3 t147 (.int .i64 1)).bind fun t148 =>
  (some (t148 : D)).bind fun t22 =>
  ((loopW (F1066_L0 a0 a4 t22) [(nth 0 r.2.1), (nth 1 r.2.1), .any, .any, .any] r.2.2).bind fun r_1 =>
    some ((unblk 8 r_1.1), [(nth 0 r_1.2.1), (nth 1 r_1.2.1), (nth 2 r_1.2.1), (nth 3 r_1.2.1), (nth 4 r_1.2.1)], r_1.2.2)).bind fun r_3 =>
  toEnd r_3.1 ((some (t19 : D)).bind fun t175 =>
  (some ((nth 0 r_3.2.1) : D)).bind fun t176 =>
  (dBin tab .sub ty3 t175 t176).bind fun t177 =>
  (some (t177 : D)).bind fun t24 =>
  (some ((nth 0 r_3.2.1) : D)).bind fun t178 =>
  (some (a2 : D)).bind fun t179 =>
  (dBin tab .lss ty3 t178 t179).bind fun t180 =>
  (some (t180 : D)).bind fun t181 =>
  (gd t181 true (some (a2 : D))).bind fun t182 =>
  (gd t181 true (some (t24 : D))).bind fun t183 =>
  (gd t181 true (dBin tab .lss ty3 t182 t183)).bind fun t184 =>
  (dPick t181 t184 (.bool false)).bind fun t185 =>
  (dIf t185
    ((some (a0 : D)).bind fun t186 =>
    (some ((nth 0 r_3.2.1) : D)).bind fun t187 =>
    (some (a2 : D)).bind fun t188 =>
    (some (t24 : D)).bind fun t189 =>
    (some (a4 : D)).bind fun t190 =>
    (R fn1068 [t186, t187, t188, t189, t190] r_3.2.2).bind fun p191 =>
    some (.nrm, ([] : List D), p191.2))
    (some (.nrm, ([] : List D), r_3.2.2))).bind fun r_4 =>
  toEnd r_4.1 ((some (a1 : D)).bind fun t192 =>
  (some ((nth 0 r_3.2.1) : D)).bind fun t193 =>
  (dBin tab .lss ty3 t192 t193).bind fun t194 =>
  (some (t194 : D)).bind fun t195 =>
  (gd t195 true (some ((nth 0 r_3.2.1) : D))).bind fun t196 =>
  (gd t195 true (some (t18 : D))).bind fun t197 =>
  (gd t195 true (dBin tab .lss ty3 t196 t197)).bind fun t198 =>
  (dPick t195 t198 (.bool false)).bind fun t199 =>
  (dIf t199
    ((some (a0 : D)).bind fun t200 =>
    (some (a1 : D)).bind fun t201 =>
    (some ((nth 0 r_3.2.1) : D)).bind fun t202 =>
    (some (t18 : D)).bind fun t203 =>
    (some (a4 : D)).bind fun t204 =>
    (R fn1066 [t200, t201, t202, t203, t204] r_4.2.2).bind fun p205 =>
    some (.nrm, ([] : List D), p205.2))
    (some (.nrm, ([] : List D), r_4.2.2))).bind fun r_5 =>
  toEnd r_5.1 ((some (t18 : D)).bind fun t206 =>
  (some (t24 : D)).bind fun t207 =>
  (dBin tab .lss ty3 t206 t207).bind fun t208 =>
  (some (t208 : D)).bind fun t209 =>
  (gd t209 true (some (t24 : D))).bind fun t210 =>
  (gd t209 true (some (a3 : D))).bind fun t211 =>
  (gd t209 true (dBin tab .lss ty3 t210 t211)).bind fun t212 =>
  (dPick t209 t212 (.bool false)).bind fun t213 =>
  (dIf t213
    ((some (a0 : D)).bind fun t214 =>
    (some (t18 : D)).bind fun t215 =>
    (some (t24 : D)).bind fun t216 =>
    (some (a3 : D)).bind fun t217 =>
    (some (a4 : D)).bind fun t218 =>
    (R fn1066 [t214, t215, t216, t217, t218] r_5.2.2).bind fun p219 =>
    some (.nrm, ([] : List D), p219.2))
    (some (.nrm, ([] : List D), r_5.2.2))).bind fun r_6 =>
  exEnd r_6.1 ((some ([] : List D)).bind fun ds => some (mkRes ds, r_6.2.2))) fun x_3 => exEnd x_3 ((some ([] : List D)).bind fun ds => some (mkRes ds, r_5.2.2))) fun x_2 => exEnd x_2 ((some ([] : List D)).bind fun ds => some (mkRes ds, r_4.2.2))) fun x_1 => exEnd x_1 ((some ([] : List D)).bind fun ds => some (mkRes ds, r_3.2.2))) fun x => exEnd x ((some ([] : List D)).bind fun ds => some (mkRes ds, r.2.2))
/-- a loop: slots 14 15 16 85 103 -/
noncomputable def F1066_L1 (a0 : D) (a2 : D) (a4 : D) (ds_1 : List D) (h_4 : Hp) : Option Out :=
    (some ((nth 0 ds_1) : D)).bind fun t83 =>
    (some ((nth 1 ds_1) : D)).bind fun t84 =>
    (dBin tab .lss ty3 t83 t84).bind fun t85 =>
    dIf t85
      ((some ((nth 0 ds_1) : D)).bind fun t86 =>
    (some ((nth 1 ds_1) : D)).bind fun t87 =>
    (dBin tab .add ty3 t86 t87).bind fun t88 =>
    (dConv tab ty3 ty134 t88).bind fun t89 =>
    (dBin tab .shr ty134 t89 (.int .u64 1)).bind fun t90 =>
    (dConv tab ty134 ty3 t90).bind fun t91 =>
    (some (t91 : D)).bind fun t16 =>
    (some (a4 : D)).bind fun t92 =>
    (some (a0 : D)).bind fun t93 =>
    (some (a2 : D)).bind fun t94 =>
    (dIndexAddr tab ty29 t93 t94).bind fun t95 =>
    (dLoad tab h_4 ty109 t95).bind fun t96 =>
    (some (a0 : D)).bind fun t97 =>
    (some (t16 : D)).bind fun t98 =>
    (dIndexAddr tab ty29 t97 t98).bind fun t99 =>
    (dLoad tab h_4 ty109 t99).bind fun t100 =>
    (callV R t92 [t96, t100] h_4).bind fun p101 =>
    (dBin tab .lss ty3 p101.1 (.int .i64 0)).bind fun t102 =>
    (dUn .not t102).bind fun t103 =>
    (dIf t103
      ((some (t16 : D)).bind fun t104 =>
      (dBin tab .add ty3 t104 (.int .i64 1)).bind fun t105 =>
      (some (t105 : D)).bind fun t14_1 =>
      some (.nrm, [t14_1, (nth 1 ds_1)], p101.2))
      ((some (t16 : D)).bind fun t106 =>
      (some (t106 : D)).bind fun t15_1 =>
      some (.nrm, [(nth 0 ds_1), t15_1], p101.2))).bind fun r_8 =>
    some ((unblk 5 r_8.1), [(nth 0 r_8.2.1), (nth 1 r_8.2.1), t16, t85, t103], r_8.2.2))
      (some ((.ext 4), [(nth 0 ds_1), (nth 1 ds_1), (nth 2 ds_1), t85, (nth 4 ds_1)], h_4))
/-- a loop: slots 17 110 -/
noncomputable def F1066_L2 (a0 : D) (r_9 : Out) (ds_2 : List D) (h_5 : Hp) : Option Out :=
    (some ((nth 0 ds_2) : D)).bind fun t108 =>
    (some ((nth 0 r_9.2.1) : D)).bind fun t109 =>
    (dBin tab .gtr ty3 t108 t109).bind fun t110 =>
    dIf t110
      ((some (a0 : D)).bind fun t113 =>
    (some ((nth 0 ds_2) : D)).bind fun t114 =>
    (some (a0 : D)).bind fun t115 =>
    (some ((nth 0 ds_2) : D)).bind fun t116 =>
    (dBin tab .sub ty3 t116 (.int .i64 1)).bind fun t117 =>
    (some (a0 : D)).bind fun t118 =>
    (some ((nth 0 ds_2) : D)).bind fun t119 =>
    (dBin tab .sub ty3 t119 (.int .i64 1)).bind fun t120 =>
    (dIndexAddr tab ty29 t118 t120).bind fun t121 =>
    (dLoad tab h_5 ty109 t121).bind fun t122 =>
    (some (a0 : D)).bind fun t123 =>
    (some ((nth 0 ds_2) : D)).bind fun t124 =>
    (dIndexAddr tab ty29 t123 t124).bind fun t125 =>
    (dLoad tab h_5 ty109 t125).bind fun t126 =>
    (dIndexAddr tab ty29 t113 t114).bind fun t127 =>
    ((dStore tab h_5 ty109 t127 t122).bind fun h' => some ((.und : D), h')).bind fun p915 =>
    (dIndexAddr tab ty29 t115 t117).bind fun t128 =>
    ((dStore tab p915.2 ty109 t128 t126).bind fun h' => some ((.und : D), h')).bind fun p917 =>
    (some ((nth 0 ds_2) : D)).bind fun t111 =>
    (dBin tab .sub ty3 t111 (.int .i64 1)).bind fun t112 =>
    (some (t112 : D)).bind fun t17_1 =>
    some (.nrm, [t17_1, t110], p917.2))
      (some ((.ext 6), [(nth 0 ds_2), t110], h_5))
/-- the rest -/
noncomputable def F1066_R0 (a0 : D) (a1 : D) (a2 : D) (a3 : D) (a4 : D) (h_1 : Hp) : Option (D × Hp) :=
    (some (a3 : D)).bind fun t77 =>
  (some (a2 : D)).bind fun t78 =>
  (dBin tab .sub ty3 t77 t78).bind fun t79 =>
  (dBin tab .eql ty3 t79 (.int .i64 1)).bind fun t80 =>
  dIf t80
    ((some (a1 : D)).bind fun t81 =>
    (some (t81 : D)).bind fun t14 =>
    (some (a2 : D)).bind fun t82 =>
    (some (t82 : D)).bind fun t15 =>
    ((loopW (F1066_L1 a0 a2 a4) [t14, t15, .any, .any, .any] h_1).bind fun r_7 =>
      some ((unblk 4 r_7.1), [(nth 0 r_7.2.1), (nth 1 r_7.2.1), (nth 2 r_7.2.1), (nth 3 r_7.2.1), (nth 4 r_7.2.1)], r_7.2.2)).bind fun r_9 =>
    toEnd r_9.1 ((some (a2 : D)).bind fun t107 =>
    (some (t107 : D)).bind fun t17 =>
    ((loopW (F1066_L2 a0 r_9) [t17, .any] r_9.2.2).bind fun r_10 =>
      some ((unblk 6 r_10.1), [(nth 0 r_10.2.1), (nth 1 r_10.2.1)], r_10.2.2)).bind fun r_11 =>
    toEnd r_11.1 ((some ([] : List D)).bind fun ds => some (mkRes ds, r_11.2.2)) fun x_5 => toEnd x_5 (F1066_R1 a0 a1 a2 a3 a4 r_11.2.2) fun x_6 => exEnd x_6 ((some ([] : List D)).bind fun ds => some (mkRes ds, r_11.2.2))) fun x_4 => toEnd x_4 (F1066_R1 a0 a1 a2 a3 a4 r_9.2.2) fun x_7 => exEnd x_7 ((some ([] : List D)).bind fun ds => some (mkRes ds, r_9.2.2)))
    (F1066_R1 a0 a1 a2 a3 a4 h_1)
/-- a loop: slots 10 11 12 33 50 -/
noncomputable def F1066_L3 (t0 : D) (t1 : D) (t4 : D) (ds_3 : List D) (h_6 : Hp) : Option Out :=
    (some ((nth 0 ds_3) : D)).bind fun t31 =>
    (some ((nth 1 ds_3) : D)).bind fun t32 =>
    (dBin tab .lss ty3 t31 t32).bind fun t33 =>
    dIf t33
      ((some ((nth 0 ds_3) : D)).bind fun t34 =>
    (some ((nth 1 ds_3) : D)).bind fun t35 =>
    (dBin tab .add ty3 t34 t35).bind fun t36 =>
    (dConv tab ty3 ty134 t36).bind fun t37 =>
    (dBin tab .shr ty134 t37 (.int .u64 1)).bind fun t38 =>
    (dConv tab ty134 ty3 t38).bind fun t39 =>
    (some (t39 : D)).bind fun t12 =>
    (some (t4 : D)).bind fun t40 =>
    (some (t0 : D)).bind fun t41 =>
    (some (t12 : D)).bind fun t42 =>
    (dIndexAddr tab ty29 t41 t42).bind fun t43 =>
    (dLoad tab h_6 ty109 t43).bind fun t44 =>
    (some (t0 : D)).bind fun t45 =>
    (some (t1 : D)).bind fun t46 =>
    (dIndexAddr tab ty29 t45 t46).bind fun t47 =>
    (dLoad tab h_6 ty109 t47).bind fun t48 =>
    (callV R t40 [t44, t48] h_6).bind fun p49 =>
    (dBin tab .lss ty3 p49.1 (.int .i64 0)).bind fun t50 =>
    (dIf t50
      ((some (t12 : D)).bind fun t51 =>
      (dBin tab .add ty3 t51 (.int .i64 1)).bind fun t52 =>
      (some (t52 : D)).bind fun t10_1 =>
      some (.nrm, [t10_1, (nth 1 ds_3)], p49.2))
      ((some (t12 : D)).bind fun t53 =>
      (some (t53 : D)).bind fun t11_1 =>
      some (.nrm, [(nth 0 ds_3), t11_1], p49.2))).bind fun r_13 =>
    some ((unblk 1 r_13.1), [(nth 0 r_13.2.1), (nth 1 r_13.2.1), t12, t33, t50], r_13.2.2))
      (some ((.ext 0), [(nth 0 ds_3), (nth 1 ds_3), (nth 2 ds_3), t33, (nth 4 ds_3)], h_6))
/-- a loop: slots 13 58 -/
noncomputable def F1066_L4 (t0 : D) (r_14 : Out) (ds_4 : List D) (h_7 : Hp) : Option Out :=
    (some ((nth 0 ds_4) : D)).bind fun t55 =>
    (some ((nth 0 r_14.2.1) : D)).bind fun t56 =>
    (dBin tab .sub ty3 t56 (.int .i64 1)).bind fun t57 =>
    (dBin tab .lss ty3 t55 t57).bind fun t58 =>
    dIf t58
      ((some (t0 : D)).bind fun t61 =>
    (some ((nth 0 ds_4) : D)).bind fun t62 =>
    (some (t0 : D)).bind fun t63 =>
    (some ((nth 0 ds_4) : D)).bind fun t64 =>
    (dBin tab .add ty3 t64 (.int .i64 1)).bind fun t65 =>
    (some (t0 : D)).bind fun t66 =>
    (some ((nth 0 ds_4) : D)).bind fun t67 =>
    (dBin tab .add ty3 t67 (.int .i64 1)).bind fun t68 =>
    (dIndexAddr tab ty29 t66 t68).bind fun t69 =>
    (dLoad tab h_7 ty109 t69).bind fun t70 =>
    (some (t0 : D)).bind fun t71 =>
    (some ((nth 0 ds_4) : D)).bind fun t72 =>
    (dIndexAddr tab ty29 t71 t72).bind fun t73 =>
    (dLoad tab h_7 ty109 t73).bind fun t74 =>
    (dIndexAddr tab ty29 t61 t62).bind fun t75 =>
    ((dStore tab h_7 ty109 t75 t70).bind fun h' => some ((.und : D), h')).bind fun p915_1 =>
    (dIndexAddr tab ty29 t63 t65).bind fun t76 =>
    ((dStore tab p915_1.2 ty109 t76 t74).bind fun h' => some ((.und : D), h')).bind fun p917_1 =>
    (some ((nth 0 ds_4) : D)).bind fun t59 =>
    (dBin tab .add ty3 t59 (.int .i64 1)).bind fun t60 =>
    (some (t60 : D)).bind fun t13_1 =>
    some (.nrm, [t13_1, t58], p917_1.2))
      (some ((.ext 2), [(nth 0 ds_4), t58], h_7))
noncomputable def F1066 (t0 : D) (t1 : D) (t2 : D) (t3 : D) (t4 : D) (h : Hp) : Option (D × Hp) :=
  (some (t2 : D)).bind fun t25 =>
  (some (t1 : D)).bind fun t26 =>
  (dBin tab .sub ty3 t25 t26).bind fun t27 =>
  (dBin tab .eql ty3 t27 (.int .i64 1)).bind fun t28 =>
  dIf t28
    ((some (t2 : D)).bind fun t29 =>
    (some (t29 : D)).bind fun t10 =>
    (some (t3 : D)).bind fun t30 =>
    (some (t30 : D)).bind fun t11 =>
    ((loopW (F1066_L3 t0 t1 t4) [t10, t11, .any, .any, .any] h).bind fun r_12 =>
      some ((unblk 0 r_12.1), [(nth 0 r_12.2.1), (nth 1 r_12.2.1), (nth 2 r_12.2.1), (nth 3 r_12.2.1), (nth 4 r_12.2.1)], r_12.2.2)).bind fun r_14 =>
    toEnd r_14.1 ((some (t1 : D)).bind fun t54 =>
    (some (t54 : D)).bind fun t13 =>
    ((loopW (F1066_L4 t0 r_14) [t13, .any] r_14.2.2).bind fun r_15 =>
      some ((unblk 2 r_15.1), [(nth 0 r_15.2.1), (nth 1 r_15.2.1)], r_15.2.2)).bind fun r_16 =>
    toEnd r_16.1 ((some ([] : List D)).bind fun ds => some (mkRes ds, r_16.2.2)) fun x_9 => toEnd x_9 (F1066_R0 t0 t1 t2 t3 t4 r_16.2.2) fun x_10 => exEnd x_10 ((some ([] : List D)).bind fun ds => some (mkRes ds, r_16.2.2))) fun x_8 => toEnd x_8 (F1066_R0 t0 t1 t2 t3 t4 r_14.2.2) fun x_11 => exEnd x_11 ((some ([] : List D)).bind fun ds => some (mkRes ds, r_14.2.2)))
    (F1066_R0 t0 t1 t2 t3 t4 h)
theorem e1066 (t0 : D) (t1 : D) (t2 : D) (t3 : D) (t4 : D) (h : Hp) : R fn1066 [t0, t1, t2, t3, t4] h = F1066 t0 t1 t2 t3 t4 h :=
  (run_fn (X := X) (F := Fs) (fi := i86) (by kernel_rfl) _ _).trans (by kernel_rfl)
noncomputable def F1019 (t0 : D) (h : Hp) : Option (D × Hp) :=
  (some (.bool false : D)).bind fun t2 =>
  (some (t0 : D)).bind fun t3 =>
  (dBin tab .geq ty5 t3 (.int .u8 97)).bind fun t4 =>
  (some (t4 : D)).bind fun t5 =>
  (gd t5 true (some (t0 : D))).bind fun t6 =>
  (gd t5 true (dBin tab .leq ty5 t6 (.int .u8 122))).bind fun t7 =>
  (dPick t5 t7 (.bool false)).bind fun t8 =>
  (some (t8 : D)).bind fun t9 =>
  (gd t9 false (some (t0 : D))).bind fun t10 =>
  (gd t9 false (dBin tab .geq ty5 t10 (.int .u8 65))).bind fun t11 =>
  (gd t9 false (some (t11 : D))).bind fun t12 =>
  (gd t12 true (some (t0 : D))).bind fun t13 =>
  (gd t12 true (dBin tab .leq ty5 t13 (.int .u8 90))).bind fun t14 =>
  (gd t9 false (dPick t12 t14 (.bool false))).bind fun t15 =>
  (dPick t9 (.bool true) t15).bind fun t16 =>
  (some (t16 : D)).bind fun t2_1 =>
  ((some (t2_1 : D)).bind fun d => (some ([] : List D)).bind fun ds => some (d :: ds)).bind fun ds => some (mkRes ds, h)
theorem e1019 (t0 : D) (h : Hp) : R fn1019 [t0] h = F1019 t0 h :=
  (run_fn (X := X) (F := Fs) (fi := i88) (by kernel_rfl) _ _).trans (by kernel_rfl)
noncomputable def F1020 (t0 : D) (h : Hp) : Option (D × Hp) :=
  (some (.bool false : D)).bind fun t2 =>
  (some (t0 : D)).bind fun t3 =>
  (R fn1021 [t3] h).bind fun p4 =>
  (some (p4.1 : D)).bind fun t5 =>
  (gd t5 false (some (t0 : D))).bind fun t6 =>
  (gdW t5 false p4.2 (R fn1019 [t6] p4.2)).bind fun p7 =>
  (dPick t5 (.bool true) p7.1).bind fun t8 =>
  (some (t8 : D)).bind fun t9 =>
  (gd t9 false (some (t0 : D))).bind fun t10 =>
  (gd t9 false (dBin tab .eql ty5 t10 (.int .u8 95))).bind fun t11 =>
  (dPick t9 (.bool true) t11).bind fun t12 =>
  (some (t12 : D)).bind fun t2_1 =>
  ((some (t2_1 : D)).bind fun d => (some ([] : List D)).bind fun ds => some (d :: ds)).bind fun ds => some (mkRes ds, p7.2)
theorem e1020 (t0 : D) (h : Hp) : R fn1020 [t0] h = F1020 t0 h :=
  (run_fn (X := X) (F := Fs) (fi := i89) (by kernel_rfl) _ _).trans (by kernel_rfl)
/-- a loop: slots 10 11 20 23 -/
noncomputable def F1068_L0 (t0 : D) (t2 : D) (t4 : D) (ds : List D) (h_1 : Hp) : Option Out :=
    (some ((nth 0 ds) : D)).bind fun t18 =>
    (some ((nth 1 ds) : D)).bind fun t19 =>
    (dBin tab .neq ty3 t18 t19).bind fun t20 =>
    dIf t20
      ((some ((nth 0 ds) : D)).bind fun t21 =>
    (some ((nth 1 ds) : D)).bind fun t22 =>
    (dBin tab .gtr ty3 t21 t22).bind fun t23 =>
    (dIf t23
      ((some (t0 : D)).bind fun t24 =>
      (some (t2 : D)).bind fun t25 =>
      (some ((nth 0 ds) : D)).bind fun t26 =>
      (dBin tab .sub ty3 t25 t26).bind fun t27 =>
      (some (t2 : D)).bind fun t28 =>
      (some ((nth 1 ds) : D)).bind fun t29 =>
      (some (t4 : D)).bind fun t30 =>
      (R fn1069 [t24, t27, t28, t29, t30] h_1).bind fun p31 =>
      (some ((nth 0 ds) : D)).bind fun t32 =>
      (some ((nth 1 ds) : D)).bind fun t33 =>
      (dBin tab .sub ty3 t32 t33).bind fun t34 =>
      (some (t34 : D)).bind fun t10_1 =>
      some (.nrm, [t10_1, (nth 1 ds)], p31.2))
      ((some (t0 : D)).bind fun t35 =>
      (some (t2 : D)).bind fun t36 =>
      (some ((nth 0 ds) : D)).bind fun t37 =>
      (dBin tab .sub ty3 t36 t37).bind fun t38 =>
      (some (t2 : D)).bind fun t39 =>
      (some ((nth 1 ds) : D)).bind fun t40 =>
      (dBin tab .add ty3 t39 t40).bind fun t41 =>
      (some ((nth 0 ds) : D)).bind fun t42 =>
      (dBin tab .sub ty3 t41 t42).bind fun t43 =>
      (some ((nth 0 ds) : D)).bind fun t44 =>
      (some (t4 : D)).bind fun t45 =>
      (R fn1069 [t35, t38, t43, t44, t45] h_1).bind fun p46 =>
      (some ((nth 1 ds) : D)).bind fun t47 =>
      (some ((nth 0 ds) : D)).bind fun t48 =>
      (dBin tab .sub ty3 t47 t48).bind fun t49 =>
      (some (t49 : D)).bind fun t11_1 =>
      some (.nrm, [(nth 0 ds), t11_1], p46.2))).bind fun r_1 =>
    some ((unblk 1 r_1.1), [(nth 0 r_1.2.1), (nth 1 r_1.2.1), t20, t23], r_1.2.2))
      (some ((.ext 0), [(nth 0 ds), (nth 1 ds), t20, (nth 3 ds)], h_1))
noncomputable def F1068 (t0 : D) (t1 : D) (t2 : D) (t3 : D) (t4 : D) (h : Hp) : Option (D × Hp) :=
  (some (t2 : D)).bind fun t12 =>
  (some (t1 : D)).bind fun t13 =>
  (dBin tab .sub ty3 t12 t13).bind fun t14 =>
  (some (t14 : D)).bind fun t10 =>
  (some (t3 : D)).bind fun t15 =>
  (some (t2 : D)).bind fun t16 =>
  (dBin tab .sub ty3 t15 t16).bind fun t17 =>
  (some (t17 : D)).bind fun t11 =>
  ((loopW (F1068_L0 t0 t2 t4) [t10, t11, .any, .any] h).bind fun r =>
    some ((unblk 0 r.1), [(nth 0 r.2.1), (nth 1 r.2.1), (nth 2 r.2.1), (nth 3 r.2.1)], r.2.2)).bind fun r_2 =>
  toEnd r_2.1 ((some (t0 : D)).bind fun t50 =>
  (some (t2 : D)).bind fun t51 =>
  (some ((nth 0 r_2.2.1) : D)).bind fun t52 =>
  (dBin tab .sub ty3 t51 t52).bind fun t53 =>
  (some (t2 : D)).bind fun t54 =>
  (some ((nth 0 r_2.2.1) : D)).bind fun t55 =>
  (some (t4 : D)).bind fun t56 =>
  (R fn1069 [t50, t53, t54, t55, t56] r_2.2.2).bind fun p57 =>
  (some ([] : List D)).bind fun ds => some (mkRes ds, p57.2)) fun x => exEnd x ((some ([] : List D)).bind fun ds => some (mkRes ds, r_2.2.2))
theorem e1068 (t0 : D) (t1 : D) (t2 : D) (t3 : D) (t4 : D) (h : Hp) : R fn1068 [t0, t1, t2, t3, t4] h = F1068 t0 t1 t2 t3 t4 h :=
  (run_fn (X := X) (F := Fs) (fi := i90) (by kernel_rfl) _ _).trans (by kernel_rfl)
noncomputable def F1021 (t0 : D) (h : Hp) : Option (D × Hp) :=
  (some (.bool false : D)).bind fun t2 =>
  (some (t0 : D)).bind fun t3 =>
  (dBin tab .geq ty5 t3 (.int .u8 48)).bind fun t4 =>
  (some (t4 : D)).bind fun t5 =>
  (gd t5 true (some (t0 : D))).bind fun t6 =>
  (gd t5 true (dBin tab .leq ty5 t6 (.int .u8 57))).bind fun t7 =>
  (dPick t5 t7 (.bool false)).bind fun t8 =>
  (some (t8 : D)).bind fun t2_1 =>
  ((some (t2_1 : D)).bind fun d => (some ([] : List D)).bind fun ds => some (d :: ds)).bind fun ds => some (mkRes ds, h)
theorem e1021 (t0 : D) (h : Hp) : R fn1021 [t0] h = F1021 t0 h :=
  (run_fn (X := X) (F := Fs) (fi := i91) (by kernel_rfl) _ _).trans (by kernel_rfl)
/-- a loop: slots 10 13 -/
noncomputable def F1069_L0 (t0 : D) (t1 : D) (t2 : D) (t3 : D) (ds : List D) (h_1 : Hp) : Option Out :=
    (some ((nth 0 ds) : D)).bind fun t11 =>
    (some (t3 : D)).bind fun t12 =>
    (dBin tab .lss ty3 t11 t12).bind fun t13 =>
    dIf t13
      ((some (t0 : D)).bind fun t16 =>
    (some (t1 : D)).bind fun t17 =>
    (some ((nth 0 ds) : D)).bind fun t18 =>
    (dBin tab .add ty3 t17 t18).bind fun t19 =>
    (some (t0 : D)).bind fun t20 =>
    (some (t2 : D)).bind fun t21 =>
    (some ((nth 0 ds) : D)).bind fun t22 =>
    (dBin tab .add ty3 t21 t22).bind fun t23 =>
    (some (t0 : D)).bind fun t24 =>
    (some (t2 : D)).bind fun t25 =>
    (some ((nth 0 ds) : D)).bind fun t26 =>
    (dBin tab .add ty3 t25 t26).bind fun t27 =>
    (dIndexAddr tab ty29 t24 t27).bind fun t28 =>
    (dLoad tab h_1 ty109 t28).bind fun t29 =>
    (some (t0 : D)).bind fun t30 =>
    (some (t1 : D)).bind fun t31 =>
    (some ((nth 0 ds) : D)).bind fun t32 =>
    (dBin tab .add ty3 t31 t32).bind fun t33 =>
    (dIndexAddr tab ty29 t30 t33).bind fun t34 =>
    (dLoad tab h_1 ty109 t34).bind fun t35 =>
    (dIndexAddr tab ty29 t16 t19).bind fun t36 =>
    ((dStore tab h_1 ty109 t36 t29).bind fun h' => some ((.und : D), h')).bind fun p921 =>
    (dIndexAddr tab ty29 t20 t23).bind fun t37 =>
    ((dStore tab p921.2 ty109 t37 t35).bind fun h' => some ((.und : D), h')).bind fun p923 =>
    (some ((nth 0 ds) : D)).bind fun t14 =>
    (dBin tab .add ty3 t14 (.int .i64 1)).bind fun t15 =>
    (some (t15 : D)).bind fun t10_1 =>
    some (.nrm, [t10_1, t13], p923.2))
      (some ((.ext 0), [(nth 0 ds), t13], h_1))
noncomputable def F1069 (t0 : D) (t1 : D) (t2 : D) (t3 : D) (t4 : D) (h : Hp) : Option (D × Hp) :=
  (some (.int .i64 0 : D)).bind fun t10 =>
  ((loopW (F1069_L0 t0 t1 t2 t3) [t10, .any] h).bind fun r =>
    some ((unblk 0 r.1), [(nth 0 r.2.1), (nth 1 r.2.1)], r.2.2)).bind fun r_1 =>
  exEnd r_1.1 ((some ([] : List D)).bind fun ds => some (mkRes ds, r_1.2.2))
theorem e1069 (t0 : D) (t1 : D) (t2 : D) (t3 : D) (t4 : D) (h : Hp) : R fn1069 [t0, t1, t2, t3, t4] h = F1069 t0 t1 t2 t3 t4 h :=
  (run_fn (X := X) (F := Fs) (fi := i92) (by kernel_rfl) _ _).trans (by kernel_rfl)
noncomputable def F1149 (t0 : D) (t1 : D) (h : Hp) : Option (D × Hp) :=
  (some (.int .i64 0 : D)).bind fun t4 =>
  (some (t0 : D)).bind fun t5 =>
  (some (t0 : D)).bind fun t6 =>
  (dNilCheck tab t6).bind fun t7 =>
  (dFieldAddr tab ty1101 0 t7).bind fun t8 =>
  (dLoad tab h ty22 t8).bind fun t9 =>
  (some (t1 : D)).bind fun t10 =>
  (dConv tab ty3 ty1029 t10).bind fun t11 =>
  (R fn1134 [t9, t11, .int .i64 4] h).bind fun p12 =>
  (dNilCheck tab t5).bind fun t13 =>
  (dFieldAddr tab ty1101 0 t13).bind fun t14 =>
  ((dStore tab p12.2 ty22 t14 p12.1).bind fun h' => some ((.und : D), h')).bind fun p910 =>
  (some (t1 : D)).bind fun t15 =>
  (some (t15 : D)).bind fun t4_1 =>
  ((some (t4_1 : D)).bind fun d => (some ([] : List D)).bind fun ds => some (d :: ds)).bind fun ds => some (mkRes ds, p910.2)
theorem e1149 (t0 : D) (t1 : D) (h : Hp) : R fn1149 [t0, t1] h = F1149 t0 t1 h :=
  (run_fn (X := X) (F := Fs) (fi := i109) (by kernel_rfl) _ _).trans (by kernel_rfl)
noncomputable def F1150 (t0 : D) (t1 : D) (h : Hp) : Option (D × Hp) :=
  (some (t0 : D)).bind fun t4 =>
  (some (t0 : D)).bind fun t5 =>
  (dNilCheck tab t5).bind fun t6 =>
  (dFieldAddr tab ty1101 0 t6).bind fun t7 =>
  (dLoad tab h ty22 t7).bind fun t8 =>
  (some (t1 : D)).bind fun t9 =>
  (dNilCheck tab t9).bind fun t10 =>
  (dLoad tab h ty3 t10).bind fun t11 =>
  (dConv tab ty3 ty1029 t11).bind fun t12 =>
  (R fn1134 [t8, t12, .int .i64 8] h).bind fun p13 =>
  (dNilCheck tab t4).bind fun t14 =>
  (dFieldAddr tab ty1101 0 t14).bind fun t15 =>
  ((dStore tab p13.2 ty22 t15 p13.1).bind fun h' => some ((.und : D), h')).bind fun p912 =>
  (some ([] : List D)).bind fun ds => some (mkRes ds, p912.2)
theorem e1150 (t0 : D) (t1 : D) (h : Hp) : R fn1150 [t0, t1] h = F1150 t0 t1 h :=
  (run_fn (X := X) (F := Fs) (fi := i110) (by kernel_rfl) _ _).trans (by kernel_rfl)
noncomputable def F1151 (t0 : D) (t1 : D) (h : Hp) : Option (D × Hp) :=
  (some (t0 : D)).bind fun t4 =>
  (some (t0 : D)).bind fun t5 =>
  (dNilCheck tab t5).bind fun t6 =>
  (dFieldAddr tab ty1101 0 t6).bind fun t7 =>
  (dLoad tab h ty22 t7).bind fun t8 =>
  (some (t1 : D)).bind fun t9 =>
  (dNilCheck tab t9).bind fun t10 =>
  (dLoad tab h ty9 t10).bind fun t11 =>
  (dLenT tab ty9 t11).bind fun t12 =>
  (dConv tab ty3 ty1029 t12).bind fun t13 =>
  (R fn1134 [t8, t13, .int .i64 4] h).bind fun p14 =>
  (some (t1 : D)).bind fun t15 =>
  (dNilCheck tab t15).bind fun t16 =>
  (dLoad tab p14.2 ty9 t16).bind fun t17 =>
  (dAppend tab p14.2 ty22 ty9 p14.1 t17).bind fun p18 =>
  (dNilCheck tab t4).bind fun t19 =>
  (dFieldAddr tab ty1101 0 t19).bind fun t20 =>
  ((dStore tab p18.2 ty22 t20 p18.1).bind fun h' => some ((.und : D), h')).bind fun p917 =>
  chk (dLoad tab h ty9 t16 = some t17)
  ((some ([] : List D)).bind fun ds => some (mkRes ds, p917.2))
theorem e1151 (t0 : D) (t1 : D) (h : Hp) : R fn1151 [t0, t1] h = F1151 t0 t1 h :=
  (run_fn (X := X) (F := Fs) (fi := i111) (by kernel_rfl) _ _).trans (by kernel_rfl)
noncomputable def F1152 (t0 : D) (t1 : D) (h : Hp) : Option (D × Hp) :=
  (some (.int .i64 0 : D)).bind fun t4 =>
  (some (t0 : D)).bind fun t6 =>
  (R fn1155 [t6, .int .i64 4] h).bind fun p7 =>
  (R fn1136 [p7.1] p7.2).bind fun p8 =>
  (dConv tab ty1029 ty3 p8.1).bind fun t9 =>
  (some (t9 : D)).bind fun t5 =>
  (some (t0 : D)).bind fun t10 =>
  (dNilCheck tab t10).bind fun t11 =>
  (dFieldAddr tab ty1106 1 t11).bind fun t12 =>
  (dLoad tab p8.2 ty4 t12).bind fun t13 =>
  (some (t13 : D)).bind fun t14 =>
  (gd t14 false (some (t5 : D))).bind fun t15 =>
  (gd t14 false (some (t0 : D))).bind fun t16 =>
  (gd t14 false (dNilCheck tab t16)).bind fun t17 =>
  (gd t14 false (dFieldAddr tab ty1106 0 t17)).bind fun t18 =>
  (gd t14 false (dLoad tab p8.2 ty22 t18)).bind fun t19 =>
  (gd t14 false (dLenT tab ty22 t19)).bind fun t20 =>
  (gd t14 false (dBin tab .quo ty3 t20 (.int .i64 8))).bind fun t21 =>
  (gd t14 false (dBin tab .gtr ty3 t15 t21)).bind fun t22 =>
  (dPick t14 (.bool true) t22).bind fun t23 =>
  dIf t23
    ((some (t0 : D)).bind fun t24 =>
    (dNilCheck tab t24).bind fun t25 =>
    (dFieldAddr tab ty1106 1 t25).bind fun t26 =>
    ((dStore tab p8.2 ty4 t26 (.bool true)).bind fun h' => some ((.und : D), h')).bind fun p903 =>
    (some (.int .i64 0 : D)).bind fun t4_1 =>
    ((some (t4_1 : D)).bind fun d => (some ([] : List D)).bind fun ds => some (d :: ds)).bind fun ds => some (mkRes ds, p903.2))
    ((some (t5 : D)).bind fun t27 =>
  (some (t27 : D)).bind fun t4_2 =>
  ((some (t4_2 : D)).bind fun d => (some ([] : List D)).bind fun ds => some (d :: ds)).bind fun ds => some (mkRes ds, p8.2))
theorem e1152 (t0 : D) (t1 : D) (h : Hp) : R fn1152 [t0, t1] h = F1152 t0 t1 h :=
  (run_fn (X := X) (F := Fs) (fi := i112) (by kernel_rfl) _ _).trans (by kernel_rfl)
noncomputable def F1153 (t0 : D) (t1 : D) (h : Hp) : Option (D × Hp) :=
  (some (t1 : D)).bind fun t4 =>
  (some (t0 : D)).bind fun t5 =>
  (R fn1155 [t5, .int .i64 8] h).bind fun p6 =>
  (R fn1136 [p6.1] p6.2).bind fun p7 =>
  (dConv tab ty1029 ty3 p7.1).bind fun t8 =>
  (dNilCheck tab t4).bind fun t9 =>
  ((dStore tab p7.2 ty3 t9 t8).bind fun h' => some ((.und : D), h')).bind fun p906 =>
  (some ([] : List D)).bind fun ds => some (mkRes ds, p906.2)
theorem e1153 (t0 : D) (t1 : D) (h : Hp) : R fn1153 [t0, t1] h = F1153 t0 t1 h :=
  (run_fn (X := X) (F := Fs) (fi := i113) (by kernel_rfl) _ _).trans (by kernel_rfl)
noncomputable def F1154 (t0 : D) (t1 : D) (h : Hp) : Option (D × Hp) :=
  (some (t0 : D)).bind fun t6 =>
  (R fn1155 [t6, .int .i64 4] h).bind fun p7 =>
  (R fn1136 [p7.1] p7.2).bind fun p8 =>
  (dConv tab ty1029 ty3 p8.1).bind fun t9 =>
  (some (t9 : D)).bind fun t4 =>
  (some (t0 : D)).bind fun t10 =>
  (some (t4 : D)).bind fun t11 =>
  (R fn1155 [t10, t11] p8.2).bind fun p12 =>
  (some (p12.1 : D)).bind fun t5 =>
  (some (t0 : D)).bind fun t13 =>
  (dNilCheck tab t13).bind fun t14 =>
  (dFieldAddr tab ty1106 1 t14).bind fun t15 =>
  (dLoad tab p12.2 ty4 t15).bind fun t16 =>
  (dUn .not t16).bind fun t17 =>
  (dIf t17
    ((some (t1 : D)).bind fun t18 =>
    (some (t5 : D)).bind fun t19 =>
    (dToStr p12.2 t19).bind fun t20 =>
    (dNilCheck tab t18).bind fun t21 =>
    ((dStore tab p12.2 ty9 t21 t20).bind fun h' => some ((.und : D), h')).bind fun p904 =>
    some (.nrm, ([] : List D), p904.2))
    (some (.nrm, ([] : List D), p12.2))).bind fun r =>
  exEnd r.1 ((some ([] : List D)).bind fun ds => some (mkRes ds, r.2.2))
theorem e1154 (t0 : D) (t1 : D) (h : Hp) : R fn1154 [t0, t1] h = F1154 t0 t1 h :=
  (run_fn (X := X) (F := Fs) (fi := i114) (by kernel_rfl) _ _).trans (by kernel_rfl)
noncomputable def F1155 (t0 : D) (t1 : D) (h : Hp) : Option (D × Hp) :=
  (some (.nils : D)).bind fun t4 =>
  (some (t0 : D)).bind fun t6 =>
  (dNilCheck tab t6).bind fun t7 =>
  (dFieldAddr tab ty1106 1 t7).bind fun t8 =>
  (dLoad tab h ty4 t8).bind fun t9 =>
  (some (t9 : D)).bind fun t10 =>
  (gd t10 false (some (t1 : D))).bind fun t11 =>
  (gd t10 false (dBin tab .lss ty3 t11 (.int .i64 0))).bind fun t12 =>
  (dPick t10 (.bool true) t12).bind fun t13 =>
  (some (t13 : D)).bind fun t14 =>
  (gd t14 false (some (t1 : D))).bind fun t15 =>
  (gd t14 false (some (t0 : D))).bind fun t16 =>
  (gd t14 false (dNilCheck tab t16)).bind fun t17 =>
  (gd t14 false (dFieldAddr tab ty1106 0 t17)).bind fun t18 =>
  (gd t14 false (dLoad tab h ty22 t18)).bind fun t19 =>
  (gd t14 false (dLenT tab ty22 t19)).bind fun t20 =>
  (gd t14 false (dBin tab .gtr ty3 t15 t20)).bind fun t21 =>
  (dPick t14 (.bool true) t21).bind fun t22 =>
  dIf t22
    ((some (t0 : D)).bind fun t23 =>
    (dNilCheck tab t23).bind fun t24 =>
    (dFieldAddr tab ty1106 1 t24).bind fun t25 =>
    ((dStore tab h ty4 t25 (.bool true)).bind fun h' => some ((.und : D), h')).bind fun p903 =>
    (some (.nils : D)).bind fun t4_1 =>
    ((some (t4_1 : D)).bind fun d => (some ([] : List D)).bind fun ds => some (d :: ds)).bind fun ds => some (mkRes ds, p903.2))
    ((some (t0 : D)).bind fun t26 =>
  (dNilCheck tab t26).bind fun t27 =>
  (dFieldAddr tab ty1106 0 t27).bind fun t28 =>
  (dLoad tab h ty22 t28).bind fun t29 =>
  (some (t1 : D)).bind fun t30 =>
  (dSliceAt tab ty22 false true false [t29, t30]).bind fun t31 =>
  (some (t31 : D)).bind fun t5 =>
  (some (t0 : D)).bind fun t32 =>
  (some (t0 : D)).bind fun t33 =>
  (dNilCheck tab t33).bind fun t34 =>
  (dFieldAddr tab ty1106 0 t34).bind fun t35 =>
  (dLoad tab h ty22 t35).bind fun t36 =>
  (some (t1 : D)).bind fun t37 =>
  (dSliceAt tab ty22 true false false [t36, t37]).bind fun t38 =>
  (dNilCheck tab t32).bind fun t39 =>
  (dFieldAddr tab ty1106 0 t39).bind fun t40 =>
  ((dStore tab h ty22 t40 t38).bind fun h' => some ((.und : D), h')).bind fun p909 =>
  (some (t5 : D)).bind fun t41 =>
  (some (t41 : D)).bind fun t4_2 =>
  ((some (t4_2 : D)).bind fun d => (some ([] : List D)).bind fun ds => some (d :: ds)).bind fun ds => some (mkRes ds, p909.2))
theorem e1155 (t0 : D) (t1 : D) (h : Hp) : R fn1155 [t0, t1] h = F1155 t0 t1 h :=
  (run_fn (X := X) (F := Fs) (fi := i115) (by kernel_rfl) _ _).trans (by kernel_rfl)
end Go.Proofs.YtjhmicmbbgkhpaaDoor
