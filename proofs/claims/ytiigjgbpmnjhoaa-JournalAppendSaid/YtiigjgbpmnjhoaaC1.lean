/- Functions as Lean functions on data. -/
import Derived.Test.YtiigjgbpmnjhoaaB1
set_option linter.unusedSimpArgs false
set_option linter.unusedVariables false
set_option linter.unnecessarySimpa false
set_option maxRecDepth 100000
namespace Go.Proofs.Ytiigjgbpmnjhoaa
open Go.Eng Go.Pi
noncomputable def F1022 (t0 : D) (t1 : D) (h : Hp) : Option (D × Hp) :=
  (some (.bool false : D)).bind fun t4 =>
  (R fn1023 [] h).bind fun p9 =>
  (dUn .not p9.1).bind fun t10 =>
  (some (t10 : D)).bind fun t11 =>
  (gd t11 false (some (t0 : D))).bind fun t12 =>
  (gd t11 false (dLenT tab ty22 t12)).bind fun t13 =>
  (gd t11 false (dBin tab .gtr ty3 t13 (.int .i64 2000))).bind fun t14 =>
  (dPick t11 (.bool true) t14).bind fun t15 =>
  (some (t15 : D)).bind fun t16 =>
  (gd t16 false (some (t1 : D))).bind fun t17 =>
  (gd t16 false (dLenT tab ty22 t17)).bind fun t18 =>
  (gd t16 false (dBin tab .gtr ty3 t18 (.int .i64 2000))).bind fun t19 =>
  (dPick t16 (.bool true) t19).bind fun t20 =>
  dIf t20
    ((some (t0 : D)).bind fun t21 =>
    (dLenT tab ty22 t21).bind fun t22 =>
    (dBin tab .gtr ty3 t22 (.int .i64 2000)).bind fun t23 =>
    (some (t23 : D)).bind fun t24 =>
    (gd t24 false (some (t1 : D))).bind fun t25 =>
    (gd t24 false (dLenT tab ty22 t25)).bind fun t26 =>
    (gd t24 false (dBin tab .gtr ty3 t26 (.int .i64 2000))).bind fun t27 =>
    (dPick t24 (.bool true) t27).bind fun t28 =>
    (some (t28 : D)).bind fun t4_1 =>
    ((some (t4_1 : D)).bind fun d => (some ([] : List D)).bind fun ds => some (d :: ds)).bind fun ds => some (mkRes ds, p9.2))
    ((some (t0 : D)).bind fun t30 =>
  (some (t1 : D)).bind fun t31 =>
  (R fn1024 [t30, t31] p9.2).bind fun p32 =>
  (some (p32.1 : D)).bind fun t29 =>
  (dExtract 0 t29).bind fun t33 =>
  (dExtract 1 t29).bind fun t34 =>
  (some (t33 : D)).bind fun t5 =>
  (some (t34 : D)).bind fun t6 =>
  (some (t0 : D)).bind fun t36 =>
  (some (t1 : D)).bind fun t37 =>
  (R fn1025 [t36, t37] p32.2).bind fun p38 =>
  (some (p38.1 : D)).bind fun t35 =>
  (dExtract 0 t35).bind fun t39 =>
  (dExtract 1 t35).bind fun t40 =>
  (some (t39 : D)).bind fun t7 =>
  (some (t40 : D)).bind fun t8 =>
  (some (t6 : D)).bind fun t41 =>
  (some (t8 : D)).bind fun t42 =>
  (dBin tab .eql ty49 t41 t42).bind fun t43 =>
  (some (t43 : D)).bind fun t44 =>
  (gd t44 true (some (t5 : D))).bind fun t45 =>
  (gd t44 true (some (t7 : D))).bind fun t46 =>
  (gdW t44 true p38.2 (R fn1026 [t45, t46] p38.2)).bind fun p47 =>
  (dPick t44 p47.1 (.bool false)).bind fun t48 =>
  (some (t48 : D)).bind fun t4_2 =>
  ((some (t4_2 : D)).bind fun d => (some ([] : List D)).bind fun ds => some (d :: ds)).bind fun ds => some (mkRes ds, p47.2))
theorem e1022 (t0 : D) (t1 : D) (h : Hp) : R fn1022 [t0, t1] h = F1022 t0 t1 h :=
  (run_fn (X := X) (F := Fs) (fi := i3) (by kernel_rfl) _ _).trans (by kernel_rfl)
noncomputable def F1023 (h : Hp) : Option (D × Hp) :=
  (some (.bool false : D)).bind fun t0 =>
  (pLitF tab ty22 1 [0] [.int .u8 1]).bind fun t4 =>
  (R fn1024 [.nils, t4] h).bind fun p5 =>
  (some (p5.1 : D)).bind fun t3 =>
  (dExtract 0 t3).bind fun t6 =>
  (dExtract 1 t3).bind fun t7 =>
  (some (t6 : D)).bind fun t1 =>
  (some (t7 : D)).bind fun t2 =>
  (some (t2 : D)).bind fun t8 =>
  (dBin tab .eql ty49 t8 (.int .i64 0)).bind fun t9 =>
  (some (t9 : D)).bind fun t10 =>
  (gd t10 true (some (t1 : D))).bind fun t11 =>
  (gd t10 true (dLenT tab ty22 t11)).bind fun t12 =>
  (gd t10 true (dBin tab .eql ty3 t12 (.int .i64 9))).bind fun t13 =>
  (dPick t10 t13 (.bool false)).bind fun t14 =>
  (some (t14 : D)).bind fun t0_1 =>
  ((some (t0_1 : D)).bind fun d => (some ([] : List D)).bind fun ds => some (d :: ds)).bind fun ds => some (mkRes ds, p5.2)
theorem e1023 (h : Hp) : R fn1023 [] h = F1023 h :=
  (run_fn (X := X) (F := Fs) (fi := i4) (by kernel_rfl) _ _).trans (by kernel_rfl)
noncomputable def F1024 (t0 : D) (t1 : D) (h : Hp) : Option (D × Hp) :=
  (some (.nils : D)).bind fun t4 =>
  (some (.int .i64 0 : D)).bind fun t5 =>
  (some (t1 : D)).bind fun t8 =>
  (dLenT tab ty22 t8).bind fun t9 =>
  (dBin tab .eql ty3 t9 (.int .i64 0)).bind fun t10 =>
  (some (t10 : D)).bind fun t11 =>
  (gd t11 false (some (t1 : D))).bind fun t12 =>
  (gd t11 false (dLenT tab ty22 t12)).bind fun t13 =>
  (gd t11 false (dBin tab .gtr ty3 t13 (.int .i64 8388608))).bind fun t14 =>
  (dPick t11 (.bool true) t14).bind fun t15 =>
  (some (t15 : D)).bind fun t7 =>
  dIf t7
    ((some (.nils : D)).bind fun t4_1 =>
    (some (.int .i64 3 : D)).bind fun t5_1 =>
    ((some (t4_1 : D)).bind fun d => ((some (t5_1 : D)).bind fun d => (some ([] : List D)).bind fun ds => some (d :: ds)).bind fun ds => some (d :: ds)).bind fun ds => some (mkRes ds, h))
    ((some (t0 : D)).bind fun t17 =>
    (dLenT tab ty22 t17).bind fun t18 =>
    (dBin tab .add ty3 t18 (.int .i64 8)).bind fun t19 =>
    (some (t1 : D)).bind fun t20 =>
    (dLenT tab ty22 t20).bind fun t21 =>
    (dBin tab .add ty3 t19 t21).bind fun t22 =>
    (dBin tab .gtr ty3 t22 (.int .i64 67108864)).bind fun t23 =>
    (some (t23 : D)).bind fun t16 =>
    dIf t16
      ((some (.nils : D)).bind fun t4_2 =>
      (some (.int .i64 16 : D)).bind fun t5_2 =>
      ((some (t4_2 : D)).bind fun d => ((some (t5_2 : D)).bind fun d => (some ([] : List D)).bind fun ds => some (d :: ds)).bind fun ds => some (d :: ds)).bind fun ds => some (mkRes ds, h))
      ((some (t1 : D)).bind fun t24 =>
  (dLenT tab ty22 t24).bind fun t25 =>
  (dConv tab ty3 ty65 t25).bind fun t26 =>
  (R fn1027 [t26] h).bind fun p27 =>
  (some (p27.1 : D)).bind fun t6 =>
  (some (t0 : D)).bind fun t28 =>
  (some (t6 : D)).bind fun t29 =>
  (some (t6 : D)).bind fun t30 =>
  (some (t1 : D)).bind fun t31 =>
  (R fn1029 [t30, t31] p27.2).bind fun p32 =>
  (R fn1027 [p32.1] p32.2).bind fun p33 =>
  (some (t1 : D)).bind fun t34 =>
  (pLitF tab ty1031 4 [0, 1, 2, 3] [t28, t29, p33.1, t34]).bind fun t35 =>
  (R fn1028 [t35] p33.2).bind fun p36 =>
  (some (p36.1 : D)).bind fun t4_3 =>
  (some (.int .i64 0 : D)).bind fun t5_3 =>
  ((some (t4_3 : D)).bind fun d => ((some (t5_3 : D)).bind fun d => (some ([] : List D)).bind fun ds => some (d :: ds)).bind fun ds => some (d :: ds)).bind fun ds => some (mkRes ds, p36.2)))
theorem e1024 (t0 : D) (t1 : D) (h : Hp) : R fn1024 [t0, t1] h = F1024 t0 t1 h :=
  (run_fn (X := X) (F := Fs) (fi := i5) (by kernel_rfl) _ _).trans (by kernel_rfl)
noncomputable def F1025 (t0 : D) (t1 : D) (h : Hp) : Option (D × Hp) :=
  (some (.nils : D)).bind fun t4 =>
  (some (.int .i64 0 : D)).bind fun t5 =>
  (some (t1 : D)).bind fun t9 =>
  (dLenT tab ty22 t9).bind fun t10 =>
  (dBin tab .eql ty3 t10 (.int .i64 0)).bind fun t11 =>
  (some (t11 : D)).bind fun t12 =>
  (gd t12 false (some (t1 : D))).bind fun t13 =>
  (gd t12 false (dLenT tab ty22 t13)).bind fun t14 =>
  (gd t12 false (dBin tab .gtr ty3 t14 (.int .i64 8388608))).bind fun t15 =>
  (dPick t12 (.bool true) t15).bind fun t16 =>
  dIf t16
    ((some (.nils : D)).bind fun t4_1 =>
    (some (.int .i64 3 : D)).bind fun t5_1 =>
    ((some (t4_1 : D)).bind fun d => ((some (t5_1 : D)).bind fun d => (some ([] : List D)).bind fun ds => some (d :: ds)).bind fun ds => some (d :: ds)).bind fun ds => scope h h (mkRes ds))
    ((some (t0 : D)).bind fun t17 =>
  (dLenT tab ty22 t17).bind fun t18 =>
  (dBin tab .add ty3 t18 (.int .i64 8)).bind fun t19 =>
  (some (t1 : D)).bind fun t20 =>
  (dLenT tab ty22 t20).bind fun t21 =>
  (dBin tab .add ty3 t19 t21).bind fun t22 =>
  (dBin tab .gtr ty3 t22 (.int .i64 67108864)).bind fun t23 =>
  dIf t23
    ((some (.nils : D)).bind fun t4_2 =>
    (some (.int .i64 16 : D)).bind fun t5_2 =>
    ((some (t4_2 : D)).bind fun d => ((some (t5_2 : D)).bind fun d => (some ([] : List D)).bind fun ds => some (d :: ds)).bind fun ds => some (d :: ds)).bind fun ds => scope h h (mkRes ds))
    ((some (t1 : D)).bind fun t24 =>
  (dLenT tab ty22 t24).bind fun t25 =>
  (dConv tab ty3 ty1029 t25).bind fun t26 =>
  (R fn1030 [.nils, t26, .int .i64 4] h).bind fun p27 =>
  (some (p27.1 : D)).bind fun t6 =>
  (some (t6 : D)).bind fun t28 =>
  (dAppend tab p27.2 ty22 ty22 (.nils) t28).bind fun p29 =>
  (some (t1 : D)).bind fun t30 =>
  (dAppend tab p29.2 ty22 ty22 p29.1 t30).bind fun p31 =>
  (R fn1031 [p31.1] p31.2).bind fun p32 =>
  (some (p32.1 : D)).bind fun t7 =>
  (some (t0 : D)).bind fun t33 =>
  (dAppend tab p32.2 ty22 ty22 (.nils) t33).bind fun p34 =>
  (some (t6 : D)).bind fun t35 =>
  (some (t7 : D)).bind fun t36 =>
  (dConv tab ty65 ty1029 t36).bind fun t37 =>
  (R fn1030 [t35, t37, .int .i64 4] p34.2).bind fun p38 =>
  (dAppend tab p38.2 ty22 ty22 p34.1 p38.1).bind fun p39 =>
  (some (p39.1 : D)).bind fun t8 =>
  (some (t8 : D)).bind fun t40 =>
  (some (t1 : D)).bind fun t41 =>
  (dAppend tab p39.2 ty22 ty22 t40 t41).bind fun p42 =>
  (some (p42.1 : D)).bind fun t4_3 =>
  (some (.int .i64 0 : D)).bind fun t5_3 =>
  ((some (t4_3 : D)).bind fun d => ((some (t5_3 : D)).bind fun d => (some ([] : List D)).bind fun ds => some (d :: ds)).bind fun ds => some (d :: ds)).bind fun ds => scope h p42.2 (mkRes ds)))
theorem e1025 (t0 : D) (t1 : D) (h : Hp) : R fn1025 [t0, t1] h = F1025 t0 t1 h :=
  (run_fn (X := X) (F := Fs) (fi := i6) (by kernel_rfl) _ _).trans (by kernel_rfl)
/-- a loop: slots 4 5 14 25 -/
noncomputable def F1026_L0 (t0 : D) (t1 : D) (ds : List D) (h_1 : Hp) : Option Out :=
    (some ((nth 1 ds) : D)).bind fun t11 =>
    (some (t0 : D)).bind fun t12 =>
    (dLenT tab ty22 t12).bind fun t13 =>
    (dBin tab .lss ty3 t11 t13).bind fun t14 =>
    dIf t14
      ((some (t0 : D)).bind fun t17 =>
    (some ((nth 1 ds) : D)).bind fun t18 =>
    (dIndexAddr tab ty22 t17 t18).bind fun t19 =>
    (dLoad tab h_1 ty5 t19).bind fun t20 =>
    (some (t1 : D)).bind fun t21 =>
    (some ((nth 1 ds) : D)).bind fun t22 =>
    (dIndexAddr tab ty22 t21 t22).bind fun t23 =>
    (dLoad tab h_1 ty5 t23).bind fun t24 =>
    (dBin tab .neq ty5 t20 t24).bind fun t25 =>
    dIf t25
      ((some (.bool false : D)).bind fun t4_2 =>
      some (.ret, [t4_2, (nth 1 ds), t14, t25], h_1))
      ((some ((nth 1 ds) : D)).bind fun t15 =>
    (dBin tab .add ty3 t15 (.int .i64 1)).bind fun t16 =>
    (some (t16 : D)).bind fun t5_1 =>
    some (.nrm, [(nth 0 ds), t5_1, t14, t25], h_1)))
      (some ((.ext 0), [(nth 0 ds), (nth 1 ds), t14, (nth 3 ds)], h_1))
noncomputable def F1026 (t0 : D) (t1 : D) (h : Hp) : Option (D × Hp) :=
  (some (.bool false : D)).bind fun t4 =>
  (some (t0 : D)).bind fun t6 =>
  (dLenT tab ty22 t6).bind fun t7 =>
  (some (t1 : D)).bind fun t8 =>
  (dLenT tab ty22 t8).bind fun t9 =>
  (dBin tab .neq ty3 t7 t9).bind fun t10 =>
  dIf t10
    ((some (.bool false : D)).bind fun t4_1 =>
    ((some (t4_1 : D)).bind fun d => (some ([] : List D)).bind fun ds => some (d :: ds)).bind fun ds => some (mkRes ds, h))
    ((some (.int .i64 0 : D)).bind fun t5 =>
  ((loopW (F1026_L0 t0 t1) [t4, t5, .any, .any] h).bind fun r =>
    some ((unblk 0 r.1), [(nth 0 r.2.1), (nth 1 r.2.1), (nth 2 r.2.1), (nth 3 r.2.1)], r.2.2)).bind fun r_1 =>
  toEnd r_1.1 ((some (.bool true : D)).bind fun t4_3 =>
  ((some (t4_3 : D)).bind fun d => (some ([] : List D)).bind fun ds => some (d :: ds)).bind fun ds => some (mkRes ds, r_1.2.2)) fun x => exEnd x (((some ((nth 0 r_1.2.1) : D)).bind fun d => (some ([] : List D)).bind fun ds => some (d :: ds)).bind fun ds => some (mkRes ds, r_1.2.2)))
theorem e1026 (t0 : D) (t1 : D) (h : Hp) : R fn1026 [t0, t1] h = F1026 t0 t1 h :=
  (run_fn (X := X) (F := Fs) (fi := i7) (by kernel_rfl) _ _).trans (by kernel_rfl)
noncomputable def F1027 (t0 : D) (h : Hp) : Option (D × Hp) :=
  (some (.nils : D)).bind fun t2 =>
  (some (t0 : D)).bind fun t3 =>
  (dBin tab .shr ty65 t3 (.int .u64 24)).bind fun t4 =>
  (dConv tab ty65 ty5 t4).bind fun t5 =>
  (some (t0 : D)).bind fun t6 =>
  (dBin tab .shr ty65 t6 (.int .u64 16)).bind fun t7 =>
  (dConv tab ty65 ty5 t7).bind fun t8 =>
  (some (t0 : D)).bind fun t9 =>
  (dBin tab .shr ty65 t9 (.int .u64 8)).bind fun t10 =>
  (dConv tab ty65 ty5 t10).bind fun t11 =>
  (some (t0 : D)).bind fun t12 =>
  (dConv tab ty65 ty5 t12).bind fun t13 =>
  (pLitF tab ty22 4 [0, 1, 2, 3] [t5, t8, t11, t13]).bind fun t14 =>
  (some (t14 : D)).bind fun t2_1 =>
  ((some (t2_1 : D)).bind fun d => (some ([] : List D)).bind fun ds => some (d :: ds)).bind fun ds => some (mkRes ds, h)
theorem e1027 (t0 : D) (h : Hp) : R fn1027 [t0] h = F1027 t0 h :=
  (run_fn (X := X) (F := Fs) (fi := i8) (by kernel_rfl) _ _).trans (by kernel_rfl)
/-- a loop: slots 3 5 11 12 20 -/
noncomputable def F1028_L0 (t9 : D) (t10 : D) (ds : List D) (h_1 : Hp) : Option Out :=
    (dBin tab .lss ty3 (nth 2 ds) t10).bind fun t12 =>
    dIf t12
      ((dIndexAddr tab ty1031 t9 (nth 2 ds)).bind fun t13 =>
    (dLoad tab h_1 ty22 t13).bind fun t14 =>
    (some (t14 : D)).bind fun t5 =>
    (some ((nth 0 ds) : D)).bind fun t15 =>
    (some (t5 : D)).bind fun t16 =>
    (dLenT tab ty22 t16).bind fun t17 =>
    (dBin tab .add ty3 t15 t17).bind fun t18 =>
    (some (t18 : D)).bind fun t3_1 =>
    (some (t3_1 : D)).bind fun t19 =>
    (dBin tab .lss ty3 t19 (.int .i64 0)).bind fun t20 =>
    (dIf t20
      (((none : Option D)).bind fun t21 =>
      ((none : Option D)).bind fun t901 =>
      some (.nrm, ([] : List D), h_1))
      (some (.nrm, ([] : List D), h_1))).bind fun r_1 =>
    toEnd (unblk 1 r_1.1) ((dBin tab .add ty3 (nth 2 ds) (.int .i64 1)).bind fun t22 =>
    (some (t22 : D)).bind fun t11_1 =>
    some (.nrm, [t3_1, t5, t11_1, t12, t20], r_1.2.2)) fun x => some (x, [t3_1, t5, (nth 2 ds), t12, t20], r_1.2.2))
      (some ((.ext 0), [(nth 0 ds), (nth 1 ds), (nth 2 ds), t12, (nth 4 ds)], h_1))
/-- a loop: slots 6 8 27 28 -/
noncomputable def F1028_L1 (t25 : D) (t26 : D) (ds_1 : List D) (h_2 : Hp) : Option Out :=
    (dBin tab .lss ty3 (nth 2 ds_1) t26).bind fun t28 =>
    dIf t28
      ((dIndexAddr tab ty1031 t25 (nth 2 ds_1)).bind fun t29 =>
    (dLoad tab h_2 ty22 t29).bind fun t30 =>
    (some (t30 : D)).bind fun t8 =>
    (some ((nth 0 ds_1) : D)).bind fun t31 =>
    (some (t8 : D)).bind fun t32 =>
    (dAppend tab h_2 ty22 ty22 t31 t32).bind fun p33 =>
    (some (p33.1 : D)).bind fun t6_1 =>
    (dBin tab .add ty3 (nth 2 ds_1) (.int .i64 1)).bind fun t34 =>
    (some (t34 : D)).bind fun t27_1 =>
    some (.nrm, [t6_1, t8, t27_1, t28], p33.2))
      (some ((.ext 2), [(nth 0 ds_1), (nth 1 ds_1), (nth 2 ds_1), t28], h_2))
noncomputable def F1028 (t0 : D) (h : Hp) : Option (D × Hp) :=
  (some (.nils : D)).bind fun t2 =>
  (some (.int .i64 0 : D)).bind fun t3 =>
  (some (t0 : D)).bind fun t9 =>
  (dLenT tab ty1031 t9).bind fun t10 =>
  (some (.int .i64 0 : D)).bind fun t11 =>
  ((loopW (F1028_L0 t9 t10) [t3, .any, t11, .any, .any] h).bind fun r =>
    some ((unblk 0 r.1), [(nth 0 r.2.1), (nth 1 r.2.1), (nth 2 r.2.1), (nth 3 r.2.1), (nth 4 r.2.1)], r.2.2)).bind fun r_2 =>
  toEnd r_2.1 ((some ((nth 0 r_2.2.1) : D)).bind fun t23 =>
  (R fn1032 [.nils, t23] r_2.2.2).bind fun p24 =>
  (some (p24.1 : D)).bind fun t6 =>
  (some (t0 : D)).bind fun t25 =>
  (dLenT tab ty1031 t25).bind fun t26 =>
  (some (.int .i64 0 : D)).bind fun t27 =>
  ((loopW (F1028_L1 t25 t26) [t6, .any, t27, .any] p24.2).bind fun r_3 =>
    some ((unblk 2 r_3.1), [(nth 0 r_3.2.1), (nth 1 r_3.2.1), (nth 2 r_3.2.1), (nth 3 r_3.2.1)], r_3.2.2)).bind fun r_4 =>
  toEnd r_4.1 ((some ((nth 0 r_4.2.1) : D)).bind fun t35 =>
  (some (t35 : D)).bind fun t2_1 =>
  ((some (t2_1 : D)).bind fun d => (some ([] : List D)).bind fun ds => some (d :: ds)).bind fun ds => scope h r_4.2.2 (mkRes ds)) fun x_2 => exEnd x_2 (((some (t2 : D)).bind fun d => (some ([] : List D)).bind fun ds => some (d :: ds)).bind fun ds => scope h r_4.2.2 (mkRes ds))) fun x_1 => exEnd x_1 (((some (t2 : D)).bind fun d => (some ([] : List D)).bind fun ds => some (d :: ds)).bind fun ds => scope h r_2.2.2 (mkRes ds))
theorem e1028 (t0 : D) (h : Hp) : R fn1028 [t0] h = F1028 t0 h :=
  (run_fn (X := X) (F := Fs) (fi := i9) (by kernel_rfl) _ _).trans (by kernel_rfl)
noncomputable def F1029 (t0 : D) (t1 : D) (h : Hp) : Option (D × Hp) :=
  (some (.int .u32 0 : D)).bind fun t4 =>
  (some (t0 : D)).bind fun t5 =>
  (some (t1 : D)).bind fun t6 =>
  (pLitF tab ty1031 2 [0, 1] [t5, t6]).bind fun t7 =>
  (R fn1028 [t7] h).bind fun p8 =>
  (R fn1033 [p8.1] p8.2).bind fun p9 =>
  (some (p9.1 : D)).bind fun t4_1 =>
  ((some (t4_1 : D)).bind fun d => (some ([] : List D)).bind fun ds => some (d :: ds)).bind fun ds => some (mkRes ds, p9.2)
theorem e1029 (t0 : D) (t1 : D) (h : Hp) : R fn1029 [t0, t1] h = F1029 t0 t1 h :=
  (run_fn (X := X) (F := Fs) (fi := i10) (by kernel_rfl) _ _).trans (by kernel_rfl)
/-- a loop: slots 0 7 11 -/
noncomputable def F1030_L0 (t1 : D) (ds : List D) (h_1 : Hp) : Option Out :=
    (some ((nth 1 ds) : D)).bind fun t10 =>
    (dBin tab .geq ty3 t10 (.int .i64 0)).bind fun t11 =>
    dIf t11
      ((some ((nth 0 ds) : D)).bind fun t14 =>
    (some (t1 : D)).bind fun t15 =>
    (some ((nth 1 ds) : D)).bind fun t16 =>
    (dBin tab .mul ty3 (.int .i64 8) t16).bind fun t17 =>
    (dBin tab .shr ty1029 t15 t17).bind fun t18 =>
    (dConv tab ty1029 ty5 t18).bind fun t19 =>
    (pLitF tab ty22 1 [0] [t19]).bind fun t20 =>
    (dAppend tab h_1 ty22 ty22 t14 t20).bind fun p21 =>
    (some (p21.1 : D)).bind fun t0_1 =>
    (some ((nth 1 ds) : D)).bind fun t12 =>
    (dBin tab .sub ty3 t12 (.int .i64 1)).bind fun t13 =>
    (some (t13 : D)).bind fun t7_1 =>
    some (.nrm, [t0_1, t7_1, t11], p21.2))
      (some ((.ext 0), [(nth 0 ds), (nth 1 ds), t11], h_1))
noncomputable def F1030 (t0 : D) (t1 : D) (t2 : D) (h : Hp) : Option (D × Hp) :=
  (some (.nils : D)).bind fun t6 =>
  (some (t2 : D)).bind fun t8 =>
  (dBin tab .sub ty3 t8 (.int .i64 1)).bind fun t9 =>
  (some (t9 : D)).bind fun t7 =>
  ((loopW (F1030_L0 t1) [t0, t7, .any] h).bind fun r =>
    some ((unblk 0 r.1), [(nth 0 r.2.1), (nth 1 r.2.1), (nth 2 r.2.1)], r.2.2)).bind fun r_1 =>
  toEnd r_1.1 ((some ((nth 0 r_1.2.1) : D)).bind fun t22 =>
  (some (t22 : D)).bind fun t6_1 =>
  ((some (t6_1 : D)).bind fun d => (some ([] : List D)).bind fun ds => some (d :: ds)).bind fun ds => some (mkRes ds, r_1.2.2)) fun x => exEnd x (((some (t6 : D)).bind fun d => (some ([] : List D)).bind fun ds => some (d :: ds)).bind fun ds => some (mkRes ds, r_1.2.2))
theorem e1030 (t0 : D) (t1 : D) (t2 : D) (h : Hp) : R fn1030 [t0, t1, t2] h = F1030 t0 t1 t2 h :=
  (run_fn (X := X) (F := Fs) (fi := i11) (by kernel_rfl) _ _).trans (by kernel_rfl)
/-- a loop: slots 3 5 20 25 -/
noncomputable def F1031_L1 (ds_1 : List D) (h_2 : Hp) : Option Out :=
    (some ((nth 1 ds_1) : D)).bind fun t19 =>
    (dBin tab .lss ty3 t19 (.int .i64 8)).bind fun t20 =>
    dIf t20
      ((some ((nth 0 ds_1) : D)).bind fun t23 =>
    (dBin tab .and ty65 t23 (.int .u32 1)).bind fun t24 =>
    (dBin tab .eql ty65 t24 (.int .u32 1)).bind fun t25 =>
    (dIf t25
      ((some ((nth 0 ds_1) : D)).bind fun t26 =>
      (dBin tab .shr ty65 t26 (.int .u64 1)).bind fun t27 =>
      (dBin tab .xor ty65 t27 (.int .u32 3988292384)).bind fun t28 =>
      (some (t28 : D)).bind fun t3_2 =>
      some (.nrm, [t3_2], h_2))
      ((some ((nth 0 ds_1) : D)).bind fun t29 =>
      (dBin tab .shr ty65 t29 (.int .u64 1)).bind fun t30 =>
      (some (t30 : D)).bind fun t3_3 =>
      some (.nrm, [t3_3], h_2))).bind fun r_2 =>
    toEnd (unblk 3 r_2.1) ((some ((nth 1 ds_1) : D)).bind fun t21 =>
    (dBin tab .add ty3 t21 (.int .i64 1)).bind fun t22 =>
    (some (t22 : D)).bind fun t5_1 =>
    some (.nrm, [(nth 0 r_2.2.1), t5_1, t20, t25], r_2.2.2)) fun x => some (x, [(nth 0 r_2.2.1), (nth 1 ds_1), t20, t25], r_2.2.2))
      (some ((.ext 2), [(nth 0 ds_1), (nth 1 ds_1), t20, (nth 3 ds_1)], h_2))
/-- a loop: slots 3 4 5 9 20 25 -/
noncomputable def F1031_L0 (t0 : D) (ds : List D) (h_1 : Hp) : Option Out :=
    (some ((nth 1 ds) : D)).bind fun t6 =>
    (some (t0 : D)).bind fun t7 =>
    (dLenT tab ty22 t7).bind fun t8 =>
    (dBin tab .lss ty3 t6 t8).bind fun t9 =>
    dIf t9
      ((some ((nth 0 ds) : D)).bind fun t12 =>
    (some (t0 : D)).bind fun t13 =>
    (some ((nth 1 ds) : D)).bind fun t14 =>
    (dIndexAddr tab ty22 t13 t14).bind fun t15 =>
    (dLoad tab h_1 ty5 t15).bind fun t16 =>
    (dConv tab ty5 ty65 t16).bind fun t17 =>
    (dBin tab .xor ty65 t12 t17).bind fun t18 =>
    (some (t18 : D)).bind fun t3_1 =>
    (some (.int .i64 0 : D)).bind fun t5 =>
    ((loopW (F1031_L1) [t3_1, t5, (nth 4 ds), (nth 5 ds)] h_1).bind fun r_1 =>
      some ((unblk 2 r_1.1), [(nth 0 r_1.2.1), (nth 1 r_1.2.1), (nth 2 r_1.2.1), (nth 3 r_1.2.1)], r_1.2.2)).bind fun r_3 =>
    toEnd (unblk 1 r_3.1) ((some ((nth 1 ds) : D)).bind fun t10 =>
    (dBin tab .add ty3 t10 (.int .i64 1)).bind fun t11 =>
    (some (t11 : D)).bind fun t4_1 =>
    some (.nrm, [(nth 0 r_3.2.1), t4_1, (nth 1 r_3.2.1), t9, (nth 2 r_3.2.1), (nth 3 r_3.2.1)], r_3.2.2)) fun x_1 => some (x_1, [(nth 0 r_3.2.1), (nth 1 ds), (nth 1 r_3.2.1), t9, (nth 2 r_3.2.1), (nth 3 r_3.2.1)], r_3.2.2))
      (some ((.ext 0), [(nth 0 ds), (nth 1 ds), (nth 2 ds), t9, (nth 4 ds), (nth 5 ds)], h_1))
noncomputable def F1031 (t0 : D) (h : Hp) : Option (D × Hp) :=
  (some (.int .u32 0 : D)).bind fun t2 =>
  (some (.int .u32 4294967295 : D)).bind fun t3 =>
  (some (.int .i64 0 : D)).bind fun t4 =>
  ((loopW (F1031_L0 t0) [t3, t4, .any, .any, .any, .any] h).bind fun r =>
    some ((unblk 0 r.1), [(nth 0 r.2.1), (nth 1 r.2.1), (nth 2 r.2.1), (nth 3 r.2.1), (nth 4 r.2.1), (nth 5 r.2.1)], r.2.2)).bind fun r_4 =>
  toEnd r_4.1 ((some ((nth 0 r_4.2.1) : D)).bind fun t31 =>
  (dUn .xor t31).bind fun t32 =>
  (some (t32 : D)).bind fun t2_1 =>
  ((some (t2_1 : D)).bind fun d => (some ([] : List D)).bind fun ds => some (d :: ds)).bind fun ds => some (mkRes ds, r_4.2.2)) fun x_2 => exEnd x_2 (((some (t2 : D)).bind fun d => (some ([] : List D)).bind fun ds => some (d :: ds)).bind fun ds => some (mkRes ds, r_4.2.2))
theorem e1031 (t0 : D) (h : Hp) : R fn1031 [t0] h = F1031 t0 h :=
  (run_fn (X := X) (F := Fs) (fi := i12) (by kernel_rfl) _ _).trans (by kernel_rfl)
noncomputable def F1032 (t0 : D) (t1 : D) (h : Hp) : Option (D × Hp) :=
  (some (.nils : D)).bind fun t4 =>
  (some (t1 : D)).bind fun t5 =>
  (dBin tab .lss ty3 t5 (.int .i64 0)).bind fun t6 =>
  (dIf t6
    (((none : Option D)).bind fun t7 =>
    ((none : Option D)).bind fun t901 =>
    some (.nrm, ([] : List D), h))
    (some (.nrm, ([] : List D), h))).bind fun r =>
  toEnd r.1 ((some (t1 : D)).bind fun t8 =>
  (some (t0 : D)).bind fun t9 =>
  (dCapT tab ty22 t9).bind fun t10 =>
  (some (t0 : D)).bind fun t11 =>
  (dLenT tab ty22 t11).bind fun t12 =>
  (dBin tab .sub ty3 t10 t12).bind fun t13 =>
  (dBin tab .sub ty3 t8 t13).bind fun t14 =>
  (some (t14 : D)).bind fun t1_1 =>
  (some (t1_1 : D)).bind fun t15 =>
  (dBin tab .gtr ty3 t15 (.int .i64 0)).bind fun t16 =>
  (dIf t16
    ((some (t0 : D)).bind fun t17 =>
    (some (t0 : D)).bind fun t18 =>
    (dCapT tab ty22 t18).bind fun t19 =>
    (dSliceAt tab ty22 false true false [t17, t19]).bind fun t20 =>
    (some (t1_1 : D)).bind fun t21 =>
    (dAppend tab r.2.2 ty22 ty3 t20 t21).bind fun p22 =>
    (some (t0 : D)).bind fun t23 =>
    (dLenT tab ty22 t23).bind fun t24 =>
    (dSliceAt tab ty22 false true false [p22.1, t24]).bind fun t25 =>
    (some (t25 : D)).bind fun t0_1 =>
    some (.nrm, [t0_1], p22.2))
    (some (.nrm, [t0], r.2.2))).bind fun r_1 =>
  toEnd r_1.1 ((some ((nth 0 r_1.2.1) : D)).bind fun t26 =>
  (some (t26 : D)).bind fun t4_1 =>
  ((some (t4_1 : D)).bind fun d => (some ([] : List D)).bind fun ds => some (d :: ds)).bind fun ds => some (mkRes ds, r_1.2.2)) fun x_1 => exEnd x_1 (((some (t4 : D)).bind fun d => (some ([] : List D)).bind fun ds => some (d :: ds)).bind fun ds => some (mkRes ds, r_1.2.2))) fun x => exEnd x (((some (t4 : D)).bind fun d => (some ([] : List D)).bind fun ds => some (d :: ds)).bind fun ds => some (mkRes ds, r.2.2))
theorem e1032 (t0 : D) (t1 : D) (h : Hp) : R fn1032 [t0, t1] h = F1032 t0 t1 h :=
  (run_fn (X := X) (F := Fs) (fi := i13) (by kernel_rfl) _ _).trans (by kernel_rfl)
/-- a loop: slots 3 16 17 -/
noncomputable def F1033_L1 (ds_1 : List D) (h_2 : Hp) : Option Out :=
    (dBin tab .lss ty3 (nth 1 ds_1) (.int .i64 8)).bind fun t17 =>
    dIf t17
      ((some ((nth 0 ds_1) : D)).bind fun t18 =>
    (dBin tab .shr ty65 t18 (.int .u64 1)).bind fun t19 =>
    (some ((nth 0 ds_1) : D)).bind fun t20 =>
    (dBin tab .and ty65 t20 (.int .u32 1)).bind fun t21 =>
    (dUn .neg t21).bind fun t22 =>
    (dBin tab .and ty65 (.int .u32 3988292384) t22).bind fun t23 =>
    (dBin tab .xor ty65 t19 t23).bind fun t24 =>
    (some (t24 : D)).bind fun t3_2 =>
    (dBin tab .add ty3 (nth 1 ds_1) (.int .i64 1)).bind fun t25 =>
    (some (t25 : D)).bind fun t16_1 =>
    some (.nrm, [t3_2, t16_1, t17], h_2))
      (some ((.ext 2), [(nth 0 ds_1), (nth 1 ds_1), t17], h_2))
/-- a loop: slots 3 5 8 9 16 17 -/
noncomputable def F1033_L0 (t6 : D) (t7 : D) (ds : List D) (h_1 : Hp) : Option Out :=
    (dBin tab .lss ty3 (nth 2 ds) t7).bind fun t9 =>
    dIf t9
      ((dIndexAddr tab ty22 t6 (nth 2 ds)).bind fun t10 =>
    (dLoad tab h_1 ty5 t10).bind fun t11 =>
    (some (t11 : D)).bind fun t5 =>
    (some ((nth 0 ds) : D)).bind fun t12 =>
    (some (t5 : D)).bind fun t13 =>
    (dConv tab ty5 ty65 t13).bind fun t14 =>
    (dBin tab .xor ty65 t12 t14).bind fun t15 =>
    (some (t15 : D)).bind fun t3_1 =>
    (some (.int .i64 0 : D)).bind fun t16 =>
    ((loopW (F1033_L1) [t3_1, t16, (nth 5 ds)] h_1).bind fun r_1 =>
      some ((unblk 2 r_1.1), [(nth 0 r_1.2.1), (nth 1 r_1.2.1), (nth 2 r_1.2.1)], r_1.2.2)).bind fun r_2 =>
    toEnd (unblk 1 r_2.1) ((dBin tab .add ty3 (nth 2 ds) (.int .i64 1)).bind fun t26 =>
    (some (t26 : D)).bind fun t8_1 =>
    some (.nrm, [(nth 0 r_2.2.1), t5, t8_1, t9, (nth 1 r_2.2.1), (nth 2 r_2.2.1)], r_2.2.2)) fun x => some (x, [(nth 0 r_2.2.1), t5, (nth 2 ds), t9, (nth 1 r_2.2.1), (nth 2 r_2.2.1)], r_2.2.2))
      (some ((.ext 0), [(nth 0 ds), (nth 1 ds), (nth 2 ds), t9, (nth 4 ds), (nth 5 ds)], h_1))
noncomputable def F1033 (t0 : D) (h : Hp) : Option (D × Hp) :=
  (some (.int .u32 0 : D)).bind fun t2 =>
  (some (.int .u32 4294967295 : D)).bind fun t3 =>
  (some (t0 : D)).bind fun t6 =>
  (dLenT tab ty22 t6).bind fun t7 =>
  (some (.int .i64 0 : D)).bind fun t8 =>
  ((loopW (F1033_L0 t6 t7) [t3, .any, t8, .any, .any, .any] h).bind fun r =>
    some ((unblk 0 r.1), [(nth 0 r.2.1), (nth 1 r.2.1), (nth 2 r.2.1), (nth 3 r.2.1), (nth 4 r.2.1), (nth 5 r.2.1)], r.2.2)).bind fun r_3 =>
  toEnd r_3.1 ((some ((nth 0 r_3.2.1) : D)).bind fun t27 =>
  (dUn .xor t27).bind fun t28 =>
  (some (t28 : D)).bind fun t2_1 =>
  ((some (t2_1 : D)).bind fun d => (some ([] : List D)).bind fun ds => some (d :: ds)).bind fun ds => some (mkRes ds, r_3.2.2)) fun x_1 => exEnd x_1 (((some (t2 : D)).bind fun d => (some ([] : List D)).bind fun ds => some (d :: ds)).bind fun ds => some (mkRes ds, r_3.2.2))
theorem e1033 (t0 : D) (h : Hp) : R fn1033 [t0] h = F1033 t0 h :=
  (run_fn (X := X) (F := Fs) (fi := i14) (by kernel_rfl) _ _).trans (by kernel_rfl)
end Go.Proofs.Ytiigjgbpmnjhoaa
