/- Functions as Lean functions on data. -/
import Derived.Test.YtjepklgnhdellaaC1
set_option linter.unusedSimpArgs false
set_option linter.unusedVariables false
set_option linter.unnecessarySimpa false
set_option maxRecDepth 100000
namespace Go.Proofs.Ytjepklgnhdellaa
open Go.Eng Go.Pi
/-- a loop: slots 2 3 4 14 23 -/
noncomputable def F1015_L0 (t0 : D) (ds : List D) (h_1 : Hp) : Option Out :=
    (some ((nth 2 ds) : D)).bind fun t11 =>
    (some (t0 : D)).bind fun t12 =>
    (dLenT tab ty29 t12).bind fun t13 =>
    (dBin tab .lss ty3 t11 t13).bind fun t14 =>
    dIf t14
      ((some (t0 : D)).bind fun t17 =>
    (some ((nth 2 ds) : D)).bind fun t18 =>
    (dIndexAddr tab ty29 t17 t18).bind fun t19 =>
    (dFieldAddr tab ty109 0 t19).bind fun t20 =>
    (dLoad tab h_1 ty9 t20).bind fun t21 =>
    (R fn1018 [t21] h_1).bind fun p22 =>
    (dUn .not p22.1).bind fun t23 =>
    dIf t23
      ((some (.nils : D)).bind fun t2_2 =>
      (some (.int .i64 6 : D)).bind fun t3_2 =>
      some (.ret, [t2_2, t3_2, (nth 2 ds), t14, t23], p22.2))
      ((some ((nth 2 ds) : D)).bind fun t15 =>
    (dBin tab .add ty3 t15 (.int .i64 1)).bind fun t16 =>
    (some (t16 : D)).bind fun t4_1 =>
    some (.nrm, [(nth 0 ds), (nth 1 ds), t4_1, t14, t23], p22.2)))
      (some ((.ext 0), [(nth 0 ds), (nth 1 ds), (nth 2 ds), t14, (nth 4 ds)], h_1))
/-- a loop: slots 7 54 -/
noncomputable def F1015_L2 (t0 : D) (ds_1 : List D) (t5_1 : D) (ds_2 : List D) (h_3 : Hp) : Option Out :=
    (some ((nth 0 ds_2) : D)).bind fun t39 =>
    (dBin tab .gtr ty3 t39 (.int .i64 0)).bind fun t40 =>
    (some (t40 : D)).bind fun t41 =>
    (gd t41 true (some (t5_1 : D))).bind fun t42 =>
    (gd t41 true (some ((nth 0 ds_2) : D))).bind fun t43 =>
    (gd t41 true (dBin tab .sub ty3 t43 (.int .i64 1))).bind fun t44 =>
    (gd t41 true (dIndexAddr tab ty29 t42 t44)).bind fun t45 =>
    (gd t41 true (dFieldAddr tab ty109 0 t45)).bind fun t46 =>
    (gd t41 true (dLoad tab h_3 ty9 t46)).bind fun t47 =>
    (gd t41 true (some (t0 : D))).bind fun t48 =>
    (gd t41 true (some ((nth 3 ds_1) : D))).bind fun t49 =>
    (gd t41 true (dIndexAddr tab ty29 t48 t49)).bind fun t50 =>
    (gd t41 true (dFieldAddr tab ty109 0 t50)).bind fun t51 =>
    (gd t41 true (dLoad tab h_3 ty9 t51)).bind fun t52 =>
    (gd t41 true (dBin tab .gtr ty9 t47 t52)).bind fun t53 =>
    (dPick t41 t53 (.bool false)).bind fun t54 =>
    dIf t54
      ((some (t5_1 : D)).bind fun t55 =>
    (some ((nth 0 ds_2) : D)).bind fun t56 =>
    (some (t5_1 : D)).bind fun t57 =>
    (some ((nth 0 ds_2) : D)).bind fun t58 =>
    (dBin tab .sub ty3 t58 (.int .i64 1)).bind fun t59 =>
    (dIndexAddr tab ty29 t57 t59).bind fun t60 =>
    (dLoad tab h_3 ty109 t60).bind fun t61 =>
    (dIndexAddr tab ty29 t55 t56).bind fun t62 =>
    ((dStore tab h_3 ty109 t62 t61).bind fun h' => some ((.und : D), h')).bind fun p908 =>
    (some ((nth 0 ds_2) : D)).bind fun t63 =>
    (dBin tab .sub ty3 t63 (.int .i64 1)).bind fun t64 =>
    (some (t64 : D)).bind fun t7_1 =>
    some (.nrm, [t7_1, t54], p908.2))
      (some ((.ext 4), [(nth 0 ds_2), t54], h_3))
/-- a loop: slots 2 3 5 6 7 27 54 87 -/
noncomputable def F1015_L1 (t0 : D) (ds_1 : List D) (h_2 : Hp) : Option Out :=
    (some ((nth 3 ds_1) : D)).bind fun t24 =>
    (some (t0 : D)).bind fun t25 =>
    (dLenT tab ty29 t25).bind fun t26 =>
    (dBin tab .lss ty3 t24 t26).bind fun t27 =>
    dIf t27
      ((some ((nth 2 ds_1) : D)).bind fun t30 =>
    (dLenT tab ty29 t30).bind fun t31 =>
    (some (t31 : D)).bind fun t7 =>
    (some ((nth 2 ds_1) : D)).bind fun t32 =>
    (some (t0 : D)).bind fun t33 =>
    (some ((nth 3 ds_1) : D)).bind fun t34 =>
    (dIndexAddr tab ty29 t33 t34).bind fun t35 =>
    (dLoad tab h_2 ty109 t35).bind fun t36 =>
    (pLitF tab ty29 1 [0] [t36]).bind fun t37 =>
    (dAppend tab h_2 ty29 ty29 t32 t37).bind fun p38 =>
    (some (p38.1 : D)).bind fun t5_1 =>
    ((loopW (F1015_L2 t0 ds_1 t5_1) [t7, (nth 6 ds_1)] p38.2).bind fun r_3 =>
      some ((unblk 4 r_3.1), [(nth 0 r_3.2.1), (nth 1 r_3.2.1)], r_3.2.2)).bind fun r_4 =>
    toEnd r_4.1 ((some (t5_1 : D)).bind fun t65 =>
    (some ((nth 0 r_4.2.1) : D)).bind fun t66 =>
    (some (t0 : D)).bind fun t67 =>
    (some ((nth 3 ds_1) : D)).bind fun t68 =>
    (dIndexAddr tab ty29 t67 t68).bind fun t69 =>
    (dLoad tab r_4.2.2 ty109 t69).bind fun t70 =>
    (dIndexAddr tab ty29 t65 t66).bind fun t71 =>
    ((dStore tab r_4.2.2 ty109 t71 t70).bind fun h' => some ((.und : D), h')).bind fun p907 =>
    (some ((nth 0 r_4.2.1) : D)).bind fun t72 =>
    (dBin tab .gtr ty3 t72 (.int .i64 0)).bind fun t73 =>
    (some (t73 : D)).bind fun t74 =>
    (gd t74 true (some (t5_1 : D))).bind fun t75 =>
    (gd t74 true (some ((nth 0 r_4.2.1) : D))).bind fun t76 =>
    (gd t74 true (dBin tab .sub ty3 t76 (.int .i64 1))).bind fun t77 =>
    (gd t74 true (dIndexAddr tab ty29 t75 t77)).bind fun t78 =>
    (gd t74 true (dFieldAddr tab ty109 0 t78)).bind fun t79 =>
    (gd t74 true (dLoad tab p907.2 ty9 t79)).bind fun t80 =>
    (gd t74 true (some (t0 : D))).bind fun t81 =>
    (gd t74 true (some ((nth 3 ds_1) : D))).bind fun t82 =>
    (gd t74 true (dIndexAddr tab ty29 t81 t82)).bind fun t83 =>
    (gd t74 true (dFieldAddr tab ty109 0 t83)).bind fun t84 =>
    (gd t74 true (dLoad tab p907.2 ty9 t84)).bind fun t85 =>
    (gd t74 true (dBin tab .eql ty9 t80 t85)).bind fun t86 =>
    (dPick t74 t86 (.bool false)).bind fun t87 =>
    dIf t87
      ((some (.nils : D)).bind fun t2_3 =>
      (some (.int .i64 7 : D)).bind fun t3_3 =>
      some (.ret, [t2_3, t3_3, t5_1, (nth 3 ds_1), (nth 0 r_4.2.1), t27, (nth 1 r_4.2.1), t87], p907.2))
      ((some ((nth 3 ds_1) : D)).bind fun t28 =>
    (dBin tab .add ty3 t28 (.int .i64 1)).bind fun t29 =>
    (some (t29 : D)).bind fun t6_1 =>
    some (.nrm, [(nth 0 ds_1), (nth 1 ds_1), t5_1, t6_1, (nth 0 r_4.2.1), t27, (nth 1 r_4.2.1), t87], p907.2))) fun x_1 => toEnd (unblk 3 x_1) ((some ((nth 3 ds_1) : D)).bind fun t28_1 =>
    (dBin tab .add ty3 t28_1 (.int .i64 1)).bind fun t29_1 =>
    (some (t29_1 : D)).bind fun t6_2 =>
    some (.nrm, [(nth 0 ds_1), (nth 1 ds_1), t5_1, t6_2, (nth 0 r_4.2.1), t27, (nth 1 r_4.2.1), (nth 7 ds_1)], r_4.2.2)) fun x_2 => some (x_2, [(nth 0 ds_1), (nth 1 ds_1), t5_1, (nth 3 ds_1), (nth 0 r_4.2.1), t27, (nth 1 r_4.2.1), (nth 7 ds_1)], r_4.2.2))
      (some ((.ext 2), [(nth 0 ds_1), (nth 1 ds_1), (nth 2 ds_1), (nth 3 ds_1), (nth 4 ds_1), t27, (nth 6 ds_1), (nth 7 ds_1)], h_2))
noncomputable def F1015 (t0 : D) (h : Hp) : Option (D × Hp) :=
  (some (.nils : D)).bind fun t2 =>
  (some (.int .i64 0 : D)).bind fun t3 =>
  (some (t0 : D)).bind fun t8 =>
  (dLenT tab ty29 t8).bind fun t9 =>
  (dBin tab .gtr ty3 t9 (.int .i64 32)).bind fun t10 =>
  dIf t10
    ((some (.nils : D)).bind fun t2_1 =>
    (some (.int .i64 4 : D)).bind fun t3_1 =>
    ((some (t2_1 : D)).bind fun d => ((some (t3_1 : D)).bind fun d => (some ([] : List D)).bind fun ds => some (d :: ds)).bind fun ds => some (d :: ds)).bind fun ds => scope h h (mkRes ds))
    ((some (.int .i64 0 : D)).bind fun t4 =>
  ((loopW (F1015_L0 t0) [t2, t3, t4, .any, .any] h).bind fun r =>
    some ((unblk 0 r.1), [(nth 0 r.2.1), (nth 1 r.2.1), (nth 2 r.2.1), (nth 3 r.2.1), (nth 4 r.2.1)], r.2.2)).bind fun r_1 =>
  toEnd r_1.1 ((some (.nils : D)).bind fun t5 =>
  (some (.int .i64 0 : D)).bind fun t6 =>
  ((loopW (F1015_L1 t0) [(nth 0 r_1.2.1), (nth 1 r_1.2.1), t5, t6, .any, .any, .any, .any] r_1.2.2).bind fun r_2 =>
    some ((unblk 2 r_2.1), [(nth 0 r_2.2.1), (nth 1 r_2.2.1), (nth 2 r_2.2.1), (nth 3 r_2.2.1), (nth 4 r_2.2.1), (nth 5 r_2.2.1), (nth 6 r_2.2.1), (nth 7 r_2.2.1)], r_2.2.2)).bind fun r_5 =>
  toEnd r_5.1 ((some ((nth 2 r_5.2.1) : D)).bind fun t88 =>
  (some (t88 : D)).bind fun t2_4 =>
  (some (.int .i64 0 : D)).bind fun t3_4 =>
  ((some (t2_4 : D)).bind fun d => ((some (t3_4 : D)).bind fun d => (some ([] : List D)).bind fun ds => some (d :: ds)).bind fun ds => some (d :: ds)).bind fun ds => scope h r_5.2.2 (mkRes ds)) fun x_3 => exEnd x_3 (((some ((nth 0 r_5.2.1) : D)).bind fun d => ((some ((nth 1 r_5.2.1) : D)).bind fun d => (some ([] : List D)).bind fun ds => some (d :: ds)).bind fun ds => some (d :: ds)).bind fun ds => scope h r_5.2.2 (mkRes ds))) fun x => exEnd x (((some ((nth 0 r_1.2.1) : D)).bind fun d => ((some ((nth 1 r_1.2.1) : D)).bind fun d => (some ([] : List D)).bind fun ds => some (d :: ds)).bind fun ds => some (d :: ds)).bind fun ds => scope h r_1.2.2 (mkRes ds)))
theorem e1015 (t0 : D) (h : Hp) : R fn1015 [t0] h = F1015 t0 h :=
  (run_fn (X := X) (F := Fs) (fi := i50) (by kernel_rfl) _ _).trans (by kernel_rfl)
/-- a loop: slots 4 5 14 25 -/
noncomputable def F95_L0 (t0 : D) (t1 : D) (ds : List D) (h_1 : Hp) : Option Out :=
    (some ((nth 1 ds) : D)).bind fun t11 =>
    (some (t0 : D)).bind fun t12 =>
    (dLenT tab ty29 t12).bind fun t13 =>
    (dBin tab .lss ty3 t11 t13).bind fun t14 =>
    dIf t14
      ((some (t0 : D)).bind fun t17 =>
    (some ((nth 1 ds) : D)).bind fun t18 =>
    (dIndexAddr tab ty29 t17 t18).bind fun t19 =>
    (dLoad tab h_1 ty109 t19).bind fun t20 =>
    (some (t1 : D)).bind fun t21 =>
    (some ((nth 1 ds) : D)).bind fun t22 =>
    (dIndexAddr tab ty29 t21 t22).bind fun t23 =>
    (dLoad tab h_1 ty109 t23).bind fun t24 =>
    (dBin tab .neq ty109 t20 t24).bind fun t25 =>
    dIf t25
      ((some (.bool false : D)).bind fun t4_2 =>
      some (.ret, [t4_2, (nth 1 ds), t14, t25], h_1))
      ((some ((nth 1 ds) : D)).bind fun t15 =>
    (dBin tab .add ty3 t15 (.int .i64 1)).bind fun t16 =>
    (some (t16 : D)).bind fun t5_1 =>
    some (.nrm, [(nth 0 ds), t5_1, t14, t25], h_1)))
      (some ((.ext 0), [(nth 0 ds), (nth 1 ds), t14, (nth 3 ds)], h_1))
noncomputable def F95 (t0 : D) (t1 : D) (h : Hp) : Option (D × Hp) :=
  (some (.bool false : D)).bind fun t4 =>
  (some (t0 : D)).bind fun t6 =>
  (dLenT tab ty29 t6).bind fun t7 =>
  (some (t1 : D)).bind fun t8 =>
  (dLenT tab ty29 t8).bind fun t9 =>
  (dBin tab .neq ty3 t7 t9).bind fun t10 =>
  dIf t10
    ((some (.bool false : D)).bind fun t4_1 =>
    ((some (t4_1 : D)).bind fun d => (some ([] : List D)).bind fun ds => some (d :: ds)).bind fun ds => some (mkRes ds, h))
    ((some (.int .i64 0 : D)).bind fun t5 =>
  ((loopW (F95_L0 t0 t1) [t4, t5, .any, .any] h).bind fun r =>
    some ((unblk 0 r.1), [(nth 0 r.2.1), (nth 1 r.2.1), (nth 2 r.2.1), (nth 3 r.2.1)], r.2.2)).bind fun r_1 =>
  toEnd r_1.1 ((some (.bool true : D)).bind fun t4_3 =>
  ((some (t4_3 : D)).bind fun d => (some ([] : List D)).bind fun ds => some (d :: ds)).bind fun ds => some (mkRes ds, r_1.2.2)) fun x => exEnd x (((some ((nth 0 r_1.2.1) : D)).bind fun d => (some ([] : List D)).bind fun ds => some (d :: ds)).bind fun ds => some (mkRes ds, r_1.2.2)))
theorem e95 (t0 : D) (t1 : D) (h : Hp) : R fn95 [t0, t1] h = F95 t0 t1 h :=
  (run_fn (X := X) (F := Fs) (fi := i51) (by kernel_rfl) _ _).trans (by kernel_rfl)
/-- a loop: slots 2 3 26 39 -/
noncomputable def F1018_L0 (t0 : D) (ds : List D) (h_1 : Hp) : Option Out :=
    (some ((nth 1 ds) : D)).bind fun t23 =>
    (some (t0 : D)).bind fun t24 =>
    (dLenT tab ty9 t24).bind fun t25 =>
    (dBin tab .lss ty3 t23 t25).bind fun t26 =>
    dIf t26
      ((some (t0 : D)).bind fun t29 =>
    (some ((nth 1 ds) : D)).bind fun t30 =>
    (dIndex tab ty9 t29 t30).bind fun t31 =>
    (R fn1020 [t31] h_1).bind fun p32 =>
    (dUn .not p32.1).bind fun t33 =>
    (some (t33 : D)).bind fun t34 =>
    (gd t34 true (some (t0 : D))).bind fun t35 =>
    (gd t34 true (some ((nth 1 ds) : D))).bind fun t36 =>
    (gd t34 true (dIndex tab ty9 t35 t36)).bind fun t37 =>
    (gd t34 true (dBin tab .neq ty5 t37 (.int .u8 46))).bind fun t38 =>
    (dPick t34 t38 (.bool false)).bind fun t39 =>
    dIf t39
      ((some (.bool false : D)).bind fun t2_2 =>
      some (.ret, [t2_2, (nth 1 ds), t26, t39], p32.2))
      ((some ((nth 1 ds) : D)).bind fun t27 =>
    (dBin tab .add ty3 t27 (.int .i64 1)).bind fun t28 =>
    (some (t28 : D)).bind fun t3_1 =>
    some (.nrm, [(nth 0 ds), t3_1, t26, t39], p32.2)))
      (some ((.ext 0), [(nth 0 ds), (nth 1 ds), t26, (nth 3 ds)], h_1))
noncomputable def F1018 (t0 : D) (h : Hp) : Option (D × Hp) :=
  (some (.bool false : D)).bind fun t2 =>
  (some (t0 : D)).bind fun t4 =>
  (dLenT tab ty9 t4).bind fun t5 =>
  (dBin tab .lss ty3 t5 (.int .i64 1)).bind fun t6 =>
  (some (t6 : D)).bind fun t7 =>
  (gd t7 false (some (t0 : D))).bind fun t8 =>
  (gd t7 false (dLenT tab ty9 t8)).bind fun t9 =>
  (gd t7 false (dBin tab .gtr ty3 t9 (.int .i64 32))).bind fun t10 =>
  (dPick t7 (.bool true) t10).bind fun t11 =>
  (some (t11 : D)).bind fun t12 =>
  (gd t12 false (some (t0 : D))).bind fun t13 =>
  (gd t12 false (dIndex tab ty9 t13 (.int .i64 0))).bind fun t14 =>
  (gdW t12 false h (R fn1019 [t14] h)).bind fun p15 =>
  (gd t12 false (dUn .not p15.1)).bind fun t16 =>
  (gd t12 false (some (t16 : D))).bind fun t17 =>
  (gd t17 true (some (t0 : D))).bind fun t18 =>
  (gd t17 true (dIndex tab ty9 t18 (.int .i64 0))).bind fun t19 =>
  (gd t17 true (dBin tab .neq ty5 t19 (.int .u8 95))).bind fun t20 =>
  (gd t12 false (dPick t17 t20 (.bool false))).bind fun t21 =>
  (dPick t12 (.bool true) t21).bind fun t22 =>
  dIf t22
    ((some (.bool false : D)).bind fun t2_1 =>
    ((some (t2_1 : D)).bind fun d => (some ([] : List D)).bind fun ds => some (d :: ds)).bind fun ds => some (mkRes ds, p15.2))
    ((some (.int .i64 0 : D)).bind fun t3 =>
  ((loopW (F1018_L0 t0) [t2, t3, .any, .any] p15.2).bind fun r =>
    some ((unblk 0 r.1), [(nth 0 r.2.1), (nth 1 r.2.1), (nth 2 r.2.1), (nth 3 r.2.1)], r.2.2)).bind fun r_1 =>
  toEnd r_1.1 ((some (.bool true : D)).bind fun t2_3 =>
  ((some (t2_3 : D)).bind fun d => (some ([] : List D)).bind fun ds => some (d :: ds)).bind fun ds => some (mkRes ds, r_1.2.2)) fun x => exEnd x (((some ((nth 0 r_1.2.1) : D)).bind fun d => (some ([] : List D)).bind fun ds => some (d :: ds)).bind fun ds => some (mkRes ds, r_1.2.2)))
theorem e1018 (t0 : D) (h : Hp) : R fn1018 [t0] h = F1018 t0 h :=
  (run_fn (X := X) (F := Fs) (fi := i52) (by kernel_rfl) _ _).trans (by kernel_rfl)
noncomputable def F1019 (t0 : D) (h : Hp) : Option (D × Hp) :=
  (some (.bool false : D)).bind fun t2 =>
  (some (t0 : D)).bind fun t3 =>
  (dBin tab .geq ty5 t3 (.int .u8 97)).bind fun t4 =>
  (some (t4 : D)).bind fun t5 =>
  (gd t5 true (some (t0 : D))).bind fun t6 =>
  (gd t5 true (dBin tab .leq ty5 t6 (.int .u8 122))).bind fun t7 =>
  (dPick t5 t7 (.bool false)).bind fun t8 =>
  (some (t8 : D)).bind fun t9 =>
  (gd t9 false (some (t0 : D))).bind fun t10 =>
  (gd t9 false (dBin tab .geq ty5 t10 (.int .u8 65))).bind fun t11 =>
  (gd t9 false (some (t11 : D))).bind fun t12 =>
  (gd t12 true (some (t0 : D))).bind fun t13 =>
  (gd t12 true (dBin tab .leq ty5 t13 (.int .u8 90))).bind fun t14 =>
  (gd t9 false (dPick t12 t14 (.bool false))).bind fun t15 =>
  (dPick t9 (.bool true) t15).bind fun t16 =>
  (some (t16 : D)).bind fun t2_1 =>
  ((some (t2_1 : D)).bind fun d => (some ([] : List D)).bind fun ds => some (d :: ds)).bind fun ds => some (mkRes ds, h)
theorem e1019 (t0 : D) (h : Hp) : R fn1019 [t0] h = F1019 t0 h :=
  (run_fn (X := X) (F := Fs) (fi := i53) (by kernel_rfl) _ _).trans (by kernel_rfl)
noncomputable def F1020 (t0 : D) (h : Hp) : Option (D × Hp) :=
  (some (.bool false : D)).bind fun t2 =>
  (some (t0 : D)).bind fun t3 =>
  (R fn1021 [t3] h).bind fun p4 =>
  (some (p4.1 : D)).bind fun t5 =>
  (gd t5 false (some (t0 : D))).bind fun t6 =>
  (gdW t5 false p4.2 (R fn1019 [t6] p4.2)).bind fun p7 =>
  (dPick t5 (.bool true) p7.1).bind fun t8 =>
  (some (t8 : D)).bind fun t9 =>
  (gd t9 false (some (t0 : D))).bind fun t10 =>
  (gd t9 false (dBin tab .eql ty5 t10 (.int .u8 95))).bind fun t11 =>
  (dPick t9 (.bool true) t11).bind fun t12 =>
  (some (t12 : D)).bind fun t2_1 =>
  ((some (t2_1 : D)).bind fun d => (some ([] : List D)).bind fun ds => some (d :: ds)).bind fun ds => some (mkRes ds, p7.2)
theorem e1020 (t0 : D) (h : Hp) : R fn1020 [t0] h = F1020 t0 h :=
  (run_fn (X := X) (F := Fs) (fi := i54) (by kernel_rfl) _ _).trans (by kernel_rfl)
noncomputable def F1021 (t0 : D) (h : Hp) : Option (D × Hp) :=
  (some (.bool false : D)).bind fun t2 =>
  (some (t0 : D)).bind fun t3 =>
  (dBin tab .geq ty5 t3 (.int .u8 48)).bind fun t4 =>
  (some (t4 : D)).bind fun t5 =>
  (gd t5 true (some (t0 : D))).bind fun t6 =>
  (gd t5 true (dBin tab .leq ty5 t6 (.int .u8 57))).bind fun t7 =>
  (dPick t5 t7 (.bool false)).bind fun t8 =>
  (some (t8 : D)).bind fun t2_1 =>
  ((some (t2_1 : D)).bind fun d => (some ([] : List D)).bind fun ds => some (d :: ds)).bind fun ds => some (mkRes ds, h)
theorem e1021 (t0 : D) (h : Hp) : R fn1021 [t0] h = F1021 t0 h :=
  (run_fn (X := X) (F := Fs) (fi := i55) (by kernel_rfl) _ _).trans (by kernel_rfl)
end Go.Proofs.Ytjepklgnhdellaa
