/- Functions as Lean functions on data. -/
import Derived.Test.YteglojieneaojaaC1
set_option linter.unusedSimpArgs false
set_option linter.unusedVariables false
set_option linter.unnecessarySimpa false
set_option maxRecDepth 100000
namespace Go.Proofs.Yteglojieneaojaa
open Go.Eng Go.Pi
/-- a loop: slots 5 6 7 12 -/
noncomputable def F1195_L0 (t0 : D) (t3 : D) (ds : List D) (h_1 : Hp) : Option Out :=
    (some ((nth 1 ds) : D)).bind fun t9 =>
    (some (t0 : D)).bind fun t10 =>
    (dLenT tab ty98 t10).bind fun t11 =>
    (dBin tab .lss ty3 t9 t11).bind fun t12 =>
    dIf t12
      ((dLoad tab h_1 ty31 t3).bind fun t16 =>
    (some (t0 : D)).bind fun t17 =>
    (some ((nth 1 ds) : D)).bind fun t18 =>
    (dIndexAddr tab ty98 t17 t18).bind fun t19 =>
    (dLoad tab h_1 ty9 t19).bind fun t20 =>
    (R fn1197 [t16, t20] h_1).bind fun p21 =>
    (some (p21.1 : D)).bind fun t15 =>
    (dExtract 0 t15).bind fun t22 =>
    (dExtract 1 t15).bind fun t23 =>
    (some (t22 : D)).bind fun t7 =>
    (some (t23 : D)).bind fun t8 =>
    (some ((nth 0 ds) : D)).bind fun t24 =>
    (some (t7 : D)).bind fun t25 =>
    (pLitF tab ty98 1 [0] [t25]).bind fun t26 =>
    (dAppend tab p21.2 ty98 ty98 t24 t26).bind fun p27 =>
    (some (p27.1 : D)).bind fun t5_1 =>
    (some ((nth 1 ds) : D)).bind fun t13 =>
    (dBin tab .add ty3 t13 (.int .i64 1)).bind fun t14 =>
    (some (t14 : D)).bind fun t6_1 =>
    some (.nrm, [t5_1, t6_1, t7, t12], p27.2))
      (some ((.ext 0), [(nth 0 ds), (nth 1 ds), (nth 2 ds), t12], h_1))
noncomputable def F1195 (t0 : D) (t1 : D) (h : Hp) : Option (D × Hp) :=
  (pBoxF t1).bind fun t3 =>
  (some (.nils : D)).bind fun t4 =>
  (some (.nils : D)).bind fun t5 =>
  (some (.int .i64 0 : D)).bind fun t6 =>
  ((loopW (F1195_L0 t0 t3) [t5, t6, .any, .any] h).bind fun r =>
    some ((unblk 0 r.1), [(nth 0 r.2.1), (nth 1 r.2.1), (nth 2 r.2.1), (nth 3 r.2.1)], r.2.2)).bind fun r_1 =>
  toEnd r_1.1 ((some ((nth 0 r_1.2.1) : D)).bind fun t28 =>
  (some (t28 : D)).bind fun t4_1 =>
  ((some (t4_1 : D)).bind fun d => (some ([] : List D)).bind fun ds => some (d :: ds)).bind fun ds => scope h r_1.2.2 (mkRes ds)) fun x => exEnd x (((some (t4 : D)).bind fun d => (some ([] : List D)).bind fun ds => some (d :: ds)).bind fun ds => scope h r_1.2.2 (mkRes ds))
theorem e1195 (t0 : D) (t1 : D) (h : Hp) : R fn1195 [t0, t1] h = F1195 t0 t1 h :=
  (run_fn (X := X) (F := Fs) (fi := i50) (by kernel_rfl) _ _).trans (by kernel_rfl)
noncomputable def F1196 (t0 : D) (t1 : D) (h : Hp) : Option (D × Hp) :=
  (pBoxF t0).bind fun t2 =>
  (some (.int .i64 0 : D)).bind fun t4 =>
  (some (.bool false : D)).bind fun t5 =>
  (dLoad tab h ty31 t2).bind fun t9 =>
  (some (t1 : D)).bind fun t10 =>
  (R fn1197 [t9, t10] h).bind fun p11 =>
  (some (p11.1 : D)).bind fun t8 =>
  (dExtract 0 t8).bind fun t12 =>
  (dExtract 1 t8).bind fun t13 =>
  (some (t12 : D)).bind fun t6 =>
  (some (t13 : D)).bind fun t7 =>
  (some (t7 : D)).bind fun t14 =>
  (dUn .not t14).bind fun t15 =>
  dIf t15
    ((some (.int .i64 0 : D)).bind fun t4_1 =>
    (some (.bool false : D)).bind fun t5_1 =>
    ((some (t4_1 : D)).bind fun d => ((some (t5_1 : D)).bind fun d => (some ([] : List D)).bind fun ds => some (d :: ds)).bind fun ds => some (d :: ds)).bind fun ds => some (mkRes ds, p11.2))
    ((some (t6 : D)).bind fun t16 =>
  (R fn1200 [t16] p11.2).bind fun p17 =>
  (dExtract 0 p17.1).bind fun t18 =>
  (dExtract 1 p17.1).bind fun t19 =>
  (some (t18 : D)).bind fun t4_2 =>
  (some (t19 : D)).bind fun t5_2 =>
  ((some (t4_2 : D)).bind fun d => ((some (t5_2 : D)).bind fun d => (some ([] : List D)).bind fun ds => some (d :: ds)).bind fun ds => some (d :: ds)).bind fun ds => some (mkRes ds, p17.2))
theorem e1196 (t0 : D) (t1 : D) (h : Hp) : R fn1196 [t0, t1] h = F1196 t0 t1 h :=
  (run_fn (X := X) (F := Fs) (fi := i51) (by kernel_rfl) _ _).trans (by kernel_rfl)
noncomputable def F1197 (t0 : D) (t1 : D) (h : Hp) : Option (D × Hp) :=
  (pBoxF t0).bind fun t2 =>
  (some (.str [] : D)).bind fun t4 =>
  (some (.bool false : D)).bind fun t5 =>
  (some (t1 : D)).bind fun t6 =>
  (dBin tab .eql ty9 t6 (.str [64, 104, 111, 115, 116])).bind fun t8 =>
  (some (t8 : D)).bind fun t7 =>
  dIf t7
    ((dFieldAddr tab ty31 0 t2).bind fun t9 =>
    (dLoad tab h ty3 t9).bind fun t10 =>
    (R fn1201 [t10] h).bind fun p11 =>
    (some (p11.1 : D)).bind fun t4_1 =>
    (some (.bool true : D)).bind fun t5_1 =>
    ((some (t4_1 : D)).bind fun d => ((some (t5_1 : D)).bind fun d => (some ([] : List D)).bind fun ds => some (d :: ds)).bind fun ds => some (d :: ds)).bind fun ds => some (mkRes ds, p11.2))
    ((dBin tab .eql ty9 t6 (.str [64, 102, 105, 108, 101])).bind fun t13 =>
    (some (t13 : D)).bind fun t12 =>
    dIf t12
      ((dFieldAddr tab ty31 1 t2).bind fun t14 =>
      (dLoad tab h ty3 t14).bind fun t15 =>
      (R fn1201 [t15] h).bind fun p16 =>
      (some (p16.1 : D)).bind fun t4_2 =>
      (some (.bool true : D)).bind fun t5_2 =>
      ((some (t4_2 : D)).bind fun d => ((some (t5_2 : D)).bind fun d => (some ([] : List D)).bind fun ds => some (d :: ds)).bind fun ds => some (d :: ds)).bind fun ds => some (mkRes ds, p16.2))
      ((dBin tab .eql ty9 t6 (.str [64, 116, 105, 109, 101])).bind fun t18 =>
      (some (t18 : D)).bind fun t17 =>
      dIf t17
        ((dFieldAddr tab ty31 5 t2).bind fun t19 =>
        (dLoad tab h ty3 t19).bind fun t20 =>
        (R fn1201 [t20] h).bind fun p21 =>
        (some (p21.1 : D)).bind fun t4_3 =>
        (some (.bool true : D)).bind fun t5_3 =>
        ((some (t4_3 : D)).bind fun d => ((some (t5_3 : D)).bind fun d => (some ([] : List D)).bind fun ds => some (d :: ds)).bind fun ds => some (d :: ds)).bind fun ds => some (mkRes ds, p21.2))
        ((dBin tab .eql ty9 t6 (.str [64, 119, 101, 105, 103, 104, 116])).bind fun t23 =>
        (some (t23 : D)).bind fun t22 =>
        dIf t22
          ((dFieldAddr tab ty31 6 t2).bind fun t24 =>
          (dLoad tab h ty3 t24).bind fun t25 =>
          (R fn1201 [t25] h).bind fun p26 =>
          (some (p26.1 : D)).bind fun t4_4 =>
          (some (.bool true : D)).bind fun t5_4 =>
          ((some (t4_4 : D)).bind fun d => ((some (t5_4 : D)).bind fun d => (some ([] : List D)).bind fun ds => some (d :: ds)).bind fun ds => some (d :: ds)).bind fun ds => some (mkRes ds, p26.2))
          ((dBin tab .eql ty9 t6 (.str [64, 116, 114, 97, 99, 101])).bind fun t28 =>
          (some (t28 : D)).bind fun t27 =>
          dIf t27
            ((dFieldAddr tab ty31 7 t2).bind fun t29 =>
            (dLoad tab h ty9 t29).bind fun t30 =>
            (some (t30 : D)).bind fun t4_5 =>
            (some (.bool true : D)).bind fun t5_5 =>
            ((some (t4_5 : D)).bind fun d => ((some (t5_5 : D)).bind fun d => (some ([] : List D)).bind fun ds => some (d :: ds)).bind fun ds => some (d :: ds)).bind fun ds => some (mkRes ds, h))
            ((dBin tab .eql ty9 t6 (.str [64, 115, 116, 114, 101, 97, 109])).bind fun t32 =>
            (some (t32 : D)).bind fun t31 =>
            dIf t31
              ((dFieldAddr tab ty31 8 t2).bind fun t33 =>
              (dLoad tab h ty9 t33).bind fun t34 =>
              (some (t34 : D)).bind fun t4_6 =>
              (some (.bool true : D)).bind fun t5_6 =>
              ((some (t4_6 : D)).bind fun d => ((some (t5_6 : D)).bind fun d => (some ([] : List D)).bind fun ds => some (d :: ds)).bind fun ds => some (d :: ds)).bind fun ds => some (mkRes ds, h))
              ((dFieldAddr tab ty31 9 t2).bind fun t35 =>
  (dLoad tab h ty29 t35).bind fun t36 =>
  (some (t1 : D)).bind fun t37 =>
  (R fn76 [t36, t37] h).bind fun p38 =>
  (dExtract 0 p38.1).bind fun t39 =>
  (dExtract 1 p38.1).bind fun t40 =>
  (some (t39 : D)).bind fun t4_7 =>
  (some (t40 : D)).bind fun t5_7 =>
  ((some (t4_7 : D)).bind fun d => ((some (t5_7 : D)).bind fun d => (some ([] : List D)).bind fun ds => some (d :: ds)).bind fun ds => some (d :: ds)).bind fun ds => some (mkRes ds, p38.2)))))))
theorem e1197 (t0 : D) (t1 : D) (h : Hp) : R fn1197 [t0, t1] h = F1197 t0 t1 h :=
  (run_fn (X := X) (F := Fs) (fi := i52) (by kernel_rfl) _ _).trans (by kernel_rfl)
/-- a loop: slots 10 11 20 23 -/
noncomputable def F1198_L0 (t0 : D) (t2 : D) (t4 : D) (ds : List D) (h_1 : Hp) : Option Out :=
    (some ((nth 0 ds) : D)).bind fun t18 =>
    (some ((nth 1 ds) : D)).bind fun t19 =>
    (dBin tab .neq ty3 t18 t19).bind fun t20 =>
    dIf t20
      ((some ((nth 0 ds) : D)).bind fun t21 =>
    (some ((nth 1 ds) : D)).bind fun t22 =>
    (dBin tab .gtr ty3 t21 t22).bind fun t23 =>
    (dIf t23
      ((some (t0 : D)).bind fun t24 =>
      (some (t2 : D)).bind fun t25 =>
      (some ((nth 0 ds) : D)).bind fun t26 =>
      (dBin tab .sub ty3 t25 t26).bind fun t27 =>
      (some (t2 : D)).bind fun t28 =>
      (some ((nth 1 ds) : D)).bind fun t29 =>
      (some (t4 : D)).bind fun t30 =>
      (R fn1202 [t24, t27, t28, t29, t30] h_1).bind fun p31 =>
      (some ((nth 0 ds) : D)).bind fun t32 =>
      (some ((nth 1 ds) : D)).bind fun t33 =>
      (dBin tab .sub ty3 t32 t33).bind fun t34 =>
      (some (t34 : D)).bind fun t10_1 =>
      some (.nrm, [t10_1, (nth 1 ds)], p31.2))
      ((some (t0 : D)).bind fun t35 =>
      (some (t2 : D)).bind fun t36 =>
      (some ((nth 0 ds) : D)).bind fun t37 =>
      (dBin tab .sub ty3 t36 t37).bind fun t38 =>
      (some (t2 : D)).bind fun t39 =>
      (some ((nth 1 ds) : D)).bind fun t40 =>
      (dBin tab .add ty3 t39 t40).bind fun t41 =>
      (some ((nth 0 ds) : D)).bind fun t42 =>
      (dBin tab .sub ty3 t41 t42).bind fun t43 =>
      (some ((nth 0 ds) : D)).bind fun t44 =>
      (some (t4 : D)).bind fun t45 =>
      (R fn1202 [t35, t38, t43, t44, t45] h_1).bind fun p46 =>
      (some ((nth 1 ds) : D)).bind fun t47 =>
      (some ((nth 0 ds) : D)).bind fun t48 =>
      (dBin tab .sub ty3 t47 t48).bind fun t49 =>
      (some (t49 : D)).bind fun t11_1 =>
      some (.nrm, [(nth 0 ds), t11_1], p46.2))).bind fun r_1 =>
    some ((unblk 1 r_1.1), [(nth 0 r_1.2.1), (nth 1 r_1.2.1), t20, t23], r_1.2.2))
      (some ((.ext 0), [(nth 0 ds), (nth 1 ds), t20, (nth 3 ds)], h_1))
noncomputable def F1198 (t0 : D) (t1 : D) (t2 : D) (t3 : D) (t4 : D) (h : Hp) : Option (D × Hp) :=
  (some (t2 : D)).bind fun t12 =>
  (some (t1 : D)).bind fun t13 =>
  (dBin tab .sub ty3 t12 t13).bind fun t14 =>
  (some (t14 : D)).bind fun t10 =>
  (some (t3 : D)).bind fun t15 =>
  (some (t2 : D)).bind fun t16 =>
  (dBin tab .sub ty3 t15 t16).bind fun t17 =>
  (some (t17 : D)).bind fun t11 =>
  ((loopW (F1198_L0 t0 t2 t4) [t10, t11, .any, .any] h).bind fun r =>
    some ((unblk 0 r.1), [(nth 0 r.2.1), (nth 1 r.2.1), (nth 2 r.2.1), (nth 3 r.2.1)], r.2.2)).bind fun r_2 =>
  toEnd r_2.1 ((some (t0 : D)).bind fun t50 =>
  (some (t2 : D)).bind fun t51 =>
  (some ((nth 0 r_2.2.1) : D)).bind fun t52 =>
  (dBin tab .sub ty3 t51 t52).bind fun t53 =>
  (some (t2 : D)).bind fun t54 =>
  (some ((nth 0 r_2.2.1) : D)).bind fun t55 =>
  (some (t4 : D)).bind fun t56 =>
  (R fn1202 [t50, t53, t54, t55, t56] r_2.2.2).bind fun p57 =>
  (some ([] : List D)).bind fun ds => some (mkRes ds, p57.2)) fun x => exEnd x ((some ([] : List D)).bind fun ds => some (mkRes ds, r_2.2.2))
theorem e1198 (t0 : D) (t1 : D) (t2 : D) (t3 : D) (t4 : D) (h : Hp) : R fn1198 [t0, t1, t2, t3, t4] h = F1198 t0 t1 t2 t3 t4 h :=
  (run_fn (X := X) (F := Fs) (fi := i53) (by kernel_rfl) _ _).trans (by kernel_rfl)
noncomputable def F100 (t0 : D) (h : Hp) : Option (D × Hp) :=
  (some (.bool false : D)).bind fun t2 =>
  (some (t0 : D)).bind fun t3 =>
  (some (t0 : D)).bind fun t4 =>
  (dBin tab .neq ty9 t3 t4).bind fun t5 =>
  (some (t5 : D)).bind fun t2_1 =>
  ((some (t2_1 : D)).bind fun d => (some ([] : List D)).bind fun ds => some (d :: ds)).bind fun ds => some (mkRes ds, h)
theorem e100 (t0 : D) (h : Hp) : R fn100 [t0] h = F100 t0 h :=
  (run_fn (X := X) (F := Fs) (fi := i54) (by kernel_rfl) _ _).trans (by kernel_rfl)
noncomputable def F33 (t0 : D) (h : Hp) : Option (D × Hp) :=
  (some (.str [] : D)).bind fun t2 =>
  (pLitF tab ty98 11 [0, 1, 2, 3, 4, 5, 6, 7, 8, 9, 10] [.str [119, 97, 114, 110], .str [105, 110, 102, 111], .str [55], .str [45, 51], .str [51, 49], .str [], .str [120, 32, 121], .str [57, 57, 57, 57, 57, 57, 57, 57, 57, 57, 57, 57, 57, 57, 57, 57, 57, 57], .str [49, 48, 48, 48, 48, 48, 48, 48, 48, 48, 48, 48, 48, 48, 48, 48, 48, 48, 48], .str [48, 55], .str [45]]).bind fun t4 =>
  (some (t4 : D)).bind fun t3 =>
  (some (t3 : D)).bind fun t5 =>
  (some (t0 : D)).bind fun t6 =>
  (some (t3 : D)).bind fun t7 =>
  (dLenT tab ty98 t7).bind fun t8 =>
  (R fn24 [t6, t8] h).bind fun p9 =>
  (dIndexAddr tab ty98 t5 p9.1).bind fun t10 =>
  (dLoad tab p9.2 ty9 t10).bind fun t11 =>
  (some (t11 : D)).bind fun t2_1 =>
  ((some (t2_1 : D)).bind fun d => (some ([] : List D)).bind fun ds => some (d :: ds)).bind fun ds => some (mkRes ds, p9.2)
theorem e33 (t0 : D) (h : Hp) : R fn33 [t0] h = F33 t0 h :=
  (run_fn (X := X) (F := Fs) (fi := i55) (by kernel_rfl) _ _).trans (by kernel_rfl)
noncomputable def F1199 (t0 : D) (h : Hp) : Option (D × Hp) :=
  (some (.nils : D)).bind fun t2 =>
  (some (t0 : D)).bind fun t7 =>
  (dLenT tab ty98 t7).bind fun t8 =>
  (dBin tab .lss ty3 t8 (.int .i64 2)).bind fun t9 =>
  dIf t9
    ((some (t0 : D)).bind fun t10 =>
    (dAppend tab h ty98 ty98 (.nils) t10).bind fun p11 =>
    (some (p11.1 : D)).bind fun t2_1 =>
    ((some (t2_1 : D)).bind fun d => (some ([] : List D)).bind fun ds => some (d :: ds)).bind fun ds => scope h p11.2 (mkRes ds))
    ((some (t0 : D)).bind fun t12 =>
  (dLenT tab ty98 t12).bind fun t13 =>
  (dBin tab .quo ty3 t13 (.int .i64 2)).bind fun t14 =>
  (some (t14 : D)).bind fun t3 =>
  (some (t0 : D)).bind fun t16 =>
  (some (t3 : D)).bind fun t17 =>
  (dSliceAt tab ty98 false true false [t16, t17]).bind fun t18 =>
  (R fn1199 [t18] h).bind fun p19 =>
  (some (t0 : D)).bind fun t20 =>
  (some (t3 : D)).bind fun t21 =>
  (dSliceAt tab ty98 true false false [t20, t21]).bind fun t22 =>
  (R fn1199 [t22] p19.2).bind fun p23 =>
  (R fn1203 [p19.1, p23.1] p23.2).bind fun p24 =>
  (some (p24.1 : D)).bind fun t15 =>
  (dExtract 0 t15).bind fun t25 =>
  (dExtract 1 t15).bind fun t26 =>
  (dExtract 2 t15).bind fun t27 =>
  (some (t25 : D)).bind fun t4 =>
  (some (t26 : D)).bind fun t5 =>
  (some (t27 : D)).bind fun t6 =>
  (some (t4 : D)).bind fun t28 =>
  (some (t28 : D)).bind fun t2_2 =>
  ((some (t2_2 : D)).bind fun d => (some ([] : List D)).bind fun ds => some (d :: ds)).bind fun ds => scope h p24.2 (mkRes ds))
theorem e1199 (t0 : D) (h : Hp) : R fn1199 [t0] h = F1199 t0 h :=
  (run_fn (X := X) (F := Fs) (fi := i56) (by kernel_rfl) _ _).trans (by kernel_rfl)
noncomputable def F1200 (t0 : D) (h : Hp) : Option (D × Hp) :=
  (some (.int .i64 0 : D)).bind fun t2 =>
  (some (.bool false : D)).bind fun t3 =>
  (some (t0 : D)).bind fun t4 =>
  (R fn1204 [t4] h).bind fun p5 =>
  (dExtract 0 p5.1).bind fun t6 =>
  (dExtract 1 p5.1).bind fun t7 =>
  (some (t6 : D)).bind fun t2_1 =>
  (some (t7 : D)).bind fun t3_1 =>
  ((some (t2_1 : D)).bind fun d => ((some (t3_1 : D)).bind fun d => (some ([] : List D)).bind fun ds => some (d :: ds)).bind fun ds => some (d :: ds)).bind fun ds => some (mkRes ds, p5.2)
theorem e1200 (t0 : D) (h : Hp) : R fn1200 [t0] h = F1200 t0 h :=
  (run_fn (X := X) (F := Fs) (fi := i57) (by kernel_rfl) _ _).trans (by kernel_rfl)
/-- a loop: slots 3 4 21 -/
noncomputable def F1201_L0 (ds : List D) (h_1 : Hp) : Option Out :=
    (some ((nth 0 ds) : D)).bind fun t11 =>
    (dBin tab .rem ty1029 t11 (.int .u64 10)).bind fun t12 =>
    (dBin tab .add ty1029 (.int .u64 48) t12).bind fun t13 =>
    (dConv tab ty1029 ty5 t13).bind fun t14 =>
    (pLitF tab ty22 1 [0] [t14]).bind fun t15 =>
    (some ((nth 1 ds) : D)).bind fun t16 =>
    (dAppend tab h_1 ty22 ty22 t15 t16).bind fun p17 =>
    (some (p17.1 : D)).bind fun t4_1 =>
    (some ((nth 0 ds) : D)).bind fun t18 =>
    (dBin tab .quo ty1029 t18 (.int .u64 10)).bind fun t19 =>
    (some (t19 : D)).bind fun t3_2 =>
    (some (t3_2 : D)).bind fun t20 =>
    (dBin tab .eql ty1029 t20 (.int .u64 0)).bind fun t21 =>
    dIf t21
      (some ((.ext 0), [t3_2, t4_1, t21], p17.2))
      (some (.nrm, [t3_2, t4_1, t21], p17.2))
noncomputable def F1201 (t0 : D) (h : Hp) : Option (D × Hp) :=
  (some (.str [] : D)).bind fun t2 =>
  (some (t0 : D)).bind fun t5 =>
  (dConv tab ty3 ty1029 t5).bind fun t6 =>
  (some (t6 : D)).bind fun t3 =>
  (some (t0 : D)).bind fun t7 =>
  (dBin tab .lss ty3 t7 (.int .i64 0)).bind fun t8 =>
  (dIf t8
    ((some (t3 : D)).bind fun t9 =>
    (dUn .neg t9).bind fun t10 =>
    (some (t10 : D)).bind fun t3_1 =>
    some (.nrm, [t3_1], h))
    (some (.nrm, [t3], h))).bind fun r =>
  toEnd r.1 ((some (.nils : D)).bind fun t4 =>
  ((loopW (F1201_L0) [(nth 0 r.2.1), t4, .any] r.2.2).bind fun r_1 =>
    some ((unblk 0 r_1.1), [(nth 0 r_1.2.1), (nth 1 r_1.2.1), (nth 2 r_1.2.1)], r_1.2.2)).bind fun r_2 =>
  toEnd r_2.1 ((some (t0 : D)).bind fun t22 =>
  (dBin tab .lss ty3 t22 (.int .i64 0)).bind fun t23 =>
  (dIf t23
    ((pLitF tab ty22 1 [0] [.int .u8 45]).bind fun t24 =>
    (some ((nth 1 r_2.2.1) : D)).bind fun t25 =>
    (dAppend tab r_2.2.2 ty22 ty22 t24 t25).bind fun p26 =>
    (some (p26.1 : D)).bind fun t4_2 =>
    some (.nrm, [t4_2], p26.2))
    (some (.nrm, [(nth 1 r_2.2.1)], r_2.2.2))).bind fun r_3 =>
  toEnd r_3.1 ((some ((nth 0 r_3.2.1) : D)).bind fun t27 =>
  (dToStr r_3.2.2 t27).bind fun t28 =>
  (some (t28 : D)).bind fun t2_1 =>
  ((some (t2_1 : D)).bind fun d => (some ([] : List D)).bind fun ds => some (d :: ds)).bind fun ds => scope h r_3.2.2 (mkRes ds)) fun x_2 => exEnd x_2 (((some (t2 : D)).bind fun d => (some ([] : List D)).bind fun ds => some (d :: ds)).bind fun ds => scope h r_3.2.2 (mkRes ds))) fun x_1 => exEnd x_1 (((some (t2 : D)).bind fun d => (some ([] : List D)).bind fun ds => some (d :: ds)).bind fun ds => scope h r_2.2.2 (mkRes ds))) fun x => exEnd x (((some (t2 : D)).bind fun d => (some ([] : List D)).bind fun ds => some (d :: ds)).bind fun ds => scope h r.2.2 (mkRes ds))
theorem e1201 (t0 : D) (h : Hp) : R fn1201 [t0] h = F1201 t0 h :=
  (run_fn (X := X) (F := Fs) (fi := i58) (by kernel_rfl) _ _).trans (by kernel_rfl)
/-- a loop: slots 4 5 6 10 19 -/
noncomputable def F76_L0 (t0 : D) (t1 : D) (ds : List D) (h_1 : Hp) : Option Out :=
    (some ((nth 2 ds) : D)).bind fun t7 =>
    (some (t0 : D)).bind fun t8 =>
    (dLenT tab ty29 t8).bind fun t9 =>
    (dBin tab .lss ty3 t7 t9).bind fun t10 =>
    dIf t10
      ((some (t0 : D)).bind fun t13 =>
    (some ((nth 2 ds) : D)).bind fun t14 =>
    (dIndexAddr tab ty29 t13 t14).bind fun t15 =>
    (dFieldAddr tab ty109 0 t15).bind fun t16 =>
    (dLoad tab h_1 ty9 t16).bind fun t17 =>
    (some (t1 : D)).bind fun t18 =>
    (dBin tab .eql ty9 t17 t18).bind fun t19 =>
    dIf t19
      ((some (t0 : D)).bind fun t20 =>
      (some ((nth 2 ds) : D)).bind fun t21 =>
      (dIndexAddr tab ty29 t20 t21).bind fun t22 =>
      (dFieldAddr tab ty109 1 t22).bind fun t23 =>
      (dLoad tab h_1 ty9 t23).bind fun t24 =>
      (some (t24 : D)).bind fun t4_1 =>
      (some (.bool true : D)).bind fun t5_1 =>
      some (.ret, [t4_1, t5_1, (nth 2 ds), t10, t19], h_1))
      ((some ((nth 2 ds) : D)).bind fun t11 =>
    (dBin tab .add ty3 t11 (.int .i64 1)).bind fun t12 =>
    (some (t12 : D)).bind fun t6_1 =>
    some (.nrm, [(nth 0 ds), (nth 1 ds), t6_1, t10, t19], h_1)))
      (some ((.ext 0), [(nth 0 ds), (nth 1 ds), (nth 2 ds), t10, (nth 4 ds)], h_1))
noncomputable def F76 (t0 : D) (t1 : D) (h : Hp) : Option (D × Hp) :=
  (some (.str [] : D)).bind fun t4 =>
  (some (.bool false : D)).bind fun t5 =>
  (some (.int .i64 0 : D)).bind fun t6 =>
  ((loopW (F76_L0 t0 t1) [t4, t5, t6, .any, .any] h).bind fun r =>
    some ((unblk 0 r.1), [(nth 0 r.2.1), (nth 1 r.2.1), (nth 2 r.2.1), (nth 3 r.2.1), (nth 4 r.2.1)], r.2.2)).bind fun r_1 =>
  toEnd r_1.1 ((some (.str [] : D)).bind fun t4_2 =>
  (some (.bool false : D)).bind fun t5_2 =>
  ((some (t4_2 : D)).bind fun d => ((some (t5_2 : D)).bind fun d => (some ([] : List D)).bind fun ds => some (d :: ds)).bind fun ds => some (d :: ds)).bind fun ds => some (mkRes ds, r_1.2.2)) fun x => exEnd x (((some ((nth 0 r_1.2.1) : D)).bind fun d => ((some ((nth 1 r_1.2.1) : D)).bind fun d => (some ([] : List D)).bind fun ds => some (d :: ds)).bind fun ds => some (d :: ds)).bind fun ds => some (mkRes ds, r_1.2.2))
theorem e76 (t0 : D) (t1 : D) (h : Hp) : R fn76 [t0, t1] h = F76 t0 t1 h :=
  (run_fn (X := X) (F := Fs) (fi := i59) (by kernel_rfl) _ _).trans (by kernel_rfl)
/-- a loop: slots 10 13 -/
noncomputable def F1202_L0 (t0 : D) (t1 : D) (t2 : D) (t3 : D) (ds : List D) (h_1 : Hp) : Option Out :=
    (some ((nth 0 ds) : D)).bind fun t11 =>
    (some (t3 : D)).bind fun t12 =>
    (dBin tab .lss ty3 t11 t12).bind fun t13 =>
    dIf t13
      ((some (t0 : D)).bind fun t16 =>
    (some (t1 : D)).bind fun t17 =>
    (some ((nth 0 ds) : D)).bind fun t18 =>
    (dBin tab .add ty3 t17 t18).bind fun t19 =>
    (some (t0 : D)).bind fun t20 =>
    (some (t2 : D)).bind fun t21 =>
    (some ((nth 0 ds) : D)).bind fun t22 =>
    (dBin tab .add ty3 t21 t22).bind fun t23 =>
    (some (t0 : D)).bind fun t24 =>
    (some (t2 : D)).bind fun t25 =>
    (some ((nth 0 ds) : D)).bind fun t26 =>
    (dBin tab .add ty3 t25 t26).bind fun t27 =>
    (dIndexAddr tab ty1144 t24 t27).bind fun t28 =>
    (dLoad tab h_1 ty1146 t28).bind fun t29 =>
    (some (t0 : D)).bind fun t30 =>
    (some (t1 : D)).bind fun t31 =>
    (some ((nth 0 ds) : D)).bind fun t32 =>
    (dBin tab .add ty3 t31 t32).bind fun t33 =>
    (dIndexAddr tab ty1144 t30 t33).bind fun t34 =>
    (dLoad tab h_1 ty1146 t34).bind fun t35 =>
    (dIndexAddr tab ty1144 t16 t19).bind fun t36 =>
    ((dStore tab h_1 ty1146 t36 t29).bind fun h' => some ((.und : D), h')).bind fun p921 =>
    (dIndexAddr tab ty1144 t20 t23).bind fun t37 =>
    ((dStore tab p921.2 ty1146 t37 t35).bind fun h' => some ((.und : D), h')).bind fun p923 =>
    (some ((nth 0 ds) : D)).bind fun t14 =>
    (dBin tab .add ty3 t14 (.int .i64 1)).bind fun t15 =>
    (some (t15 : D)).bind fun t10_1 =>
    some (.nrm, [t10_1, t13], p923.2))
      (some ((.ext 0), [(nth 0 ds), t13], h_1))
noncomputable def F1202 (t0 : D) (t1 : D) (t2 : D) (t3 : D) (t4 : D) (h : Hp) : Option (D × Hp) :=
  (some (.int .i64 0 : D)).bind fun t10 =>
  ((loopW (F1202_L0 t0 t1 t2 t3) [t10, .any] h).bind fun r =>
    some ((unblk 0 r.1), [(nth 0 r.2.1), (nth 1 r.2.1)], r.2.2)).bind fun r_1 =>
  exEnd r_1.1 ((some ([] : List D)).bind fun ds => some (mkRes ds, r_1.2.2))
theorem e1202 (t0 : D) (t1 : D) (t2 : D) (t3 : D) (t4 : D) (h : Hp) : R fn1202 [t0, t1, t2, t3, t4] h = F1202 t0 t1 t2 t3 t4 h :=
  (run_fn (X := X) (F := Fs) (fi := i60) (by kernel_rfl) _ _).trans (by kernel_rfl)
/-- a loop: slots 7 8 9 10 11 21 43 79 -/
noncomputable def F1203_L0 (t0 : D) (t1 : D) (ds : List D) (h_1 : Hp) : Option Out :=
    (some ((nth 3 ds) : D)).bind fun t12 =>
    (some (t0 : D)).bind fun t13 =>
    (dLenT tab ty98 t13).bind fun t14 =>
    (dBin tab .lss ty3 t12 t14).bind fun t15 =>
    (some (t15 : D)).bind fun t16 =>
    (gd t16 false (some ((nth 4 ds) : D))).bind fun t17 =>
    (gd t16 false (some (t1 : D))).bind fun t18 =>
    (gd t16 false (dLenT tab ty98 t18)).bind fun t19 =>
    (gd t16 false (dBin tab .lss ty3 t17 t19)).bind fun t20 =>
    (dPick t16 (.bool true) t20).bind fun t21 =>
    dIf t21
      ((some ((nth 4 ds) : D)).bind fun t44 =>
    (some (t1 : D)).bind fun t45 =>
    (dLenT tab ty98 t45).bind fun t46 =>
    (dBin tab .eql ty3 t44 t46).bind fun t47 =>
    (some (t47 : D)).bind fun t48 =>
    (gd t48 false (some ((nth 3 ds) : D))).bind fun t49 =>
    (gd t48 false (some (t0 : D))).bind fun t50 =>
    (gd t48 false (dLenT tab ty98 t50)).bind fun t51 =>
    (gd t48 false (dBin tab .lss ty3 t49 t51)).bind fun t52 =>
    (gd t48 false (some (t52 : D))).bind fun t53 =>
    (gd t53 true (some (t0 : D))).bind fun t54 =>
    (gd t53 true (some ((nth 3 ds) : D))).bind fun t55 =>
    (gd t53 true (dIndexAddr tab ty98 t54 t55)).bind fun t56 =>
    (gd t53 true (dLoad tab h_1 ty9 t56)).bind fun t57 =>
    (gd t53 true (some (t1 : D))).bind fun t58 =>
    (gd t53 true (some ((nth 4 ds) : D))).bind fun t59 =>
    (gd t53 true (dIndexAddr tab ty98 t58 t59)).bind fun t60 =>
    (gd t53 true (dLoad tab h_1 ty9 t60)).bind fun t61 =>
    (gd t53 true (dBin tab .lss ty9 t57 t61)).bind fun t62 =>
    (gd t48 false (dPick t53 t62 (.bool false))).bind fun t63 =>
    (dPick t48 (.bool true) t63).bind fun t64 =>
    (some (t64 : D)).bind fun t43 =>
    (dIf t43
      ((some ((nth 1 ds) : D)).bind fun t65 =>
      (some ((nth 0 ds) : D)).bind fun t66 =>
      (dLenT tab ty98 t66).bind fun t67 =>
      (pLitF tab ty82 1 [0] [t67]).bind fun t68 =>
      (dAppend tab h_1 ty82 ty82 t65 t68).bind fun p69 =>
      (some (p69.1 : D)).bind fun t8_1 =>
      (some ((nth 0 ds) : D)).bind fun t70 =>
      (some (t0 : D)).bind fun t71 =>
      (some ((nth 3 ds) : D)).bind fun t72 =>
      (dIndexAddr tab ty98 t71 t72).bind fun t73 =>
      (dLoad tab p69.2 ty9 t73).bind fun t74 =>
      (pLitF tab ty98 1 [0] [t74]).bind fun t75 =>
      (dAppend tab p69.2 ty98 ty98 t70 t75).bind fun p76 =>
      (some (p76.1 : D)).bind fun t7_1 =>
      (some ((nth 3 ds) : D)).bind fun t77 =>
      (dBin tab .add ty3 t77 (.int .i64 1)).bind fun t78 =>
      (some (t78 : D)).bind fun t10_1 =>
      some (.nrm, [t7_1, t8_1, (nth 2 ds), t10_1, (nth 4 ds), (nth 7 ds)], p76.2))
      ((some ((nth 3 ds) : D)).bind fun t80 =>
      (some (t0 : D)).bind fun t81 =>
      (dLenT tab ty98 t81).bind fun t82 =>
      (dBin tab .eql ty3 t80 t82).bind fun t83 =>
      (some (t83 : D)).bind fun t84 =>
      (gd t84 false (some (t1 : D))).bind fun t85 =>
      (gd t84 false (some ((nth 4 ds) : D))).bind fun t86 =>
      (gd t84 false (dIndexAddr tab ty98 t85 t86)).bind fun t87 =>
      (gd t84 false (dLoad tab h_1 ty9 t87)).bind fun t88 =>
      (gd t84 false (some (t0 : D))).bind fun t89 =>
      (gd t84 false (some ((nth 3 ds) : D))).bind fun t90 =>
      (gd t84 false (dIndexAddr tab ty98 t89 t90)).bind fun t91 =>
      (gd t84 false (dLoad tab h_1 ty9 t91)).bind fun t92 =>
      (gd t84 false (dBin tab .lss ty9 t88 t92)).bind fun t93 =>
      (dPick t84 (.bool true) t93).bind fun t94 =>
      (some (t94 : D)).bind fun t79 =>
      (dIf t79
        ((some ((nth 2 ds) : D)).bind fun t95 =>
        (some ((nth 0 ds) : D)).bind fun t96 =>
        (dLenT tab ty98 t96).bind fun t97 =>
        (pLitF tab ty82 1 [0] [t97]).bind fun t98 =>
        (dAppend tab h_1 ty82 ty82 t95 t98).bind fun p99 =>
        (some (p99.1 : D)).bind fun t9_1 =>
        (some ((nth 0 ds) : D)).bind fun t100 =>
        (some (t1 : D)).bind fun t101 =>
        (some ((nth 4 ds) : D)).bind fun t102 =>
        (dIndexAddr tab ty98 t101 t102).bind fun t103 =>
        (dLoad tab p99.2 ty9 t103).bind fun t104 =>
        (pLitF tab ty98 1 [0] [t104]).bind fun t105 =>
        (dAppend tab p99.2 ty98 ty98 t100 t105).bind fun p106 =>
        (some (p106.1 : D)).bind fun t7_2 =>
        (some ((nth 4 ds) : D)).bind fun t107 =>
        (dBin tab .add ty3 t107 (.int .i64 1)).bind fun t108 =>
        (some (t108 : D)).bind fun t11_1 =>
        some (.nrm, [t7_2, (nth 1 ds), t9_1, (nth 3 ds), t11_1], p106.2))
        ((some ((nth 1 ds) : D)).bind fun t22 =>
        (some ((nth 0 ds) : D)).bind fun t23 =>
        (dLenT tab ty98 t23).bind fun t24 =>
        (pLitF tab ty82 1 [0] [t24]).bind fun t25 =>
        (dAppend tab h_1 ty82 ty82 t22 t25).bind fun p26 =>
        (some ((nth 2 ds) : D)).bind fun t27 =>
        (some ((nth 0 ds) : D)).bind fun t28 =>
        (dLenT tab ty98 t28).bind fun t29 =>
        (pLitF tab ty82 1 [0] [t29]).bind fun t30 =>
        (dAppend tab p26.2 ty82 ty82 t27 t30).bind fun p31 =>
        (some (p26.1 : D)).bind fun t8_2 =>
        (some (p31.1 : D)).bind fun t9_2 =>
        (some ((nth 0 ds) : D)).bind fun t32 =>
        (some (t0 : D)).bind fun t33 =>
        (some ((nth 3 ds) : D)).bind fun t34 =>
        (dIndexAddr tab ty98 t33 t34).bind fun t35 =>
        (dLoad tab p31.2 ty9 t35).bind fun t36 =>
        (pLitF tab ty98 1 [0] [t36]).bind fun t37 =>
        (dAppend tab p31.2 ty98 ty98 t32 t37).bind fun p38 =>
        (some (p38.1 : D)).bind fun t7_3 =>
        (some ((nth 3 ds) : D)).bind fun t39 =>
        (dBin tab .add ty3 t39 (.int .i64 1)).bind fun t40 =>
        (some (t40 : D)).bind fun t10_2 =>
        (some ((nth 4 ds) : D)).bind fun t41 =>
        (dBin tab .add ty3 t41 (.int .i64 1)).bind fun t42 =>
        (some (t42 : D)).bind fun t11_2 =>
        some (.nrm, [t7_3, t8_2, t9_2, t10_2, t11_2], p38.2))).bind fun r_1 =>
      some (r_1.1, [(nth 0 r_1.2.1), (nth 1 r_1.2.1), (nth 2 r_1.2.1), (nth 3 r_1.2.1), (nth 4 r_1.2.1), t79], r_1.2.2))).bind fun r_2 =>
    some ((unblk 1 (unblk 2 r_2.1)), [(nth 0 r_2.2.1), (nth 1 r_2.2.1), (nth 2 r_2.2.1), (nth 3 r_2.2.1), (nth 4 r_2.2.1), t21, t43, (nth 5 r_2.2.1)], r_2.2.2))
      (some ((.ext 0), [(nth 0 ds), (nth 1 ds), (nth 2 ds), (nth 3 ds), (nth 4 ds), t21, (nth 6 ds), (nth 7 ds)], h_1))
noncomputable def F1203 (t0 : D) (t1 : D) (h : Hp) : Option (D × Hp) :=
  (some (.nils : D)).bind fun t4 =>
  (some (.nils : D)).bind fun t5 =>
  (some (.nils : D)).bind fun t6 =>
  (some (.nils : D)).bind fun t7 =>
  (some (.nils : D)).bind fun t8 =>
  (some (.nils : D)).bind fun t9 =>
  (some (.int .i64 0 : D)).bind fun t10 =>
  (some (.int .i64 0 : D)).bind fun t11 =>
  ((loopW (F1203_L0 t0 t1) [t7, t8, t9, t10, t11, .any, .any, .any] h).bind fun r =>
    some ((unblk 0 r.1), [(nth 0 r.2.1), (nth 1 r.2.1), (nth 2 r.2.1), (nth 3 r.2.1), (nth 4 r.2.1), (nth 5 r.2.1), (nth 6 r.2.1), (nth 7 r.2.1)], r.2.2)).bind fun r_3 =>
  toEnd r_3.1 ((some ((nth 0 r_3.2.1) : D)).bind fun t109 =>
  (some ((nth 1 r_3.2.1) : D)).bind fun t110 =>
  (some ((nth 2 r_3.2.1) : D)).bind fun t111 =>
  (some (t109 : D)).bind fun t4_1 =>
  (some (t110 : D)).bind fun t5_1 =>
  (some (t111 : D)).bind fun t6_1 =>
  ((some (t4_1 : D)).bind fun d => ((some (t5_1 : D)).bind fun d => ((some (t6_1 : D)).bind fun d => (some ([] : List D)).bind fun ds => some (d :: ds)).bind fun ds => some (d :: ds)).bind fun ds => some (d :: ds)).bind fun ds => scope h r_3.2.2 (mkRes ds)) fun x => exEnd x (((some (t4 : D)).bind fun d => ((some (t5 : D)).bind fun d => ((some (t6 : D)).bind fun d => (some ([] : List D)).bind fun ds => some (d :: ds)).bind fun ds => some (d :: ds)).bind fun ds => some (d :: ds)).bind fun ds => scope h r_3.2.2 (mkRes ds))
theorem e1203 (t0 : D) (t1 : D) (h : Hp) : R fn1203 [t0, t1] h = F1203 t0 t1 h :=
  (run_fn (X := X) (F := Fs) (fi := i61) (by kernel_rfl) _ _).trans (by kernel_rfl)
/-- a loop: slots 2 3 5 6 29 36 -/
noncomputable def F1204_L0 (r : Out) (ds : List D) (h_1 : Hp) : Option Out :=
    (some ((nth 3 ds) : D)).bind fun t26 =>
    (some ((nth 0 r.2.1) : D)).bind fun t27 =>
    (dLenT tab ty9 t27).bind fun t28 =>
    (dBin tab .lss ty3 t26 t28).bind fun t29 =>
    dIf t29
      ((some ((nth 0 r.2.1) : D)).bind fun t32 =>
    (some ((nth 3 ds) : D)).bind fun t33 =>
    (dIndex tab ty9 t32 t33).bind fun t34 =>
    (R fn1205 [t34] h_1).bind fun p35 =>
    (dUn .not p35.1).bind fun t36 =>
    dIf t36
      ((some (.int .i64 0 : D)).bind fun t2_2 =>
      (some (.bool false : D)).bind fun t3_2 =>
      some (.ret, [t2_2, t3_2, (nth 2 ds), (nth 3 ds), t29, t36], p35.2))
      ((some ((nth 2 ds) : D)).bind fun t37 =>
    (dBin tab .mul ty3 (.int .i64 10) t37).bind fun t38 =>
    (some ((nth 0 r.2.1) : D)).bind fun t39 =>
    (some ((nth 3 ds) : D)).bind fun t40 =>
    (dIndex tab ty9 t39 t40).bind fun t41 =>
    (dBin tab .sub ty5 t41 (.int .u8 48)).bind fun t42 =>
    (dConv tab ty5 ty3 t42).bind fun t43 =>
    (dBin tab .add ty3 t38 t43).bind fun t44 =>
    (some (t44 : D)).bind fun t5_1 =>
    (some ((nth 3 ds) : D)).bind fun t30 =>
    (dBin tab .add ty3 t30 (.int .i64 1)).bind fun t31 =>
    (some (t31 : D)).bind fun t6_1 =>
    some (.nrm, [(nth 0 ds), (nth 1 ds), t5_1, t6_1, t29, t36], p35.2)))
      (some ((.ext 0), [(nth 0 ds), (nth 1 ds), (nth 2 ds), (nth 3 ds), t29, (nth 5 ds)], h_1))
noncomputable def F1204 (t0 : D) (h : Hp) : Option (D × Hp) :=
  (some (.int .i64 0 : D)).bind fun t2 =>
  (some (.bool false : D)).bind fun t3 =>
  (some (t0 : D)).bind fun t7 =>
  (some (t7 : D)).bind fun t4 =>
  (some (t4 : D)).bind fun t8 =>
  (dLenT tab ty9 t8).bind fun t9 =>
  (dBin tab .gtr ty3 t9 (.int .i64 0)).bind fun t10 =>
  (some (t10 : D)).bind fun t11 =>
  (gd t11 true (some (t4 : D))).bind fun t12 =>
  (gd t11 true (dIndex tab ty9 t12 (.int .i64 0))).bind fun t13 =>
  (gd t11 true (dBin tab .eql ty5 t13 (.int .u8 45))).bind fun t14 =>
  (dPick t11 t14 (.bool false)).bind fun t15 =>
  (dIf t15
    ((some (t4 : D)).bind fun t16 =>
    (dSliceAt tab ty9 true false false [t16, .int .i64 1]).bind fun t17 =>
    (some (t17 : D)).bind fun t4_1 =>
    some (.nrm, [t4_1], h))
    (some (.nrm, [t4], h))).bind fun r =>
  toEnd r.1 ((some ((nth 0 r.2.1) : D)).bind fun t18 =>
  (dLenT tab ty9 t18).bind fun t19 =>
  (dBin tab .lss ty3 t19 (.int .i64 1)).bind fun t20 =>
  (some (t20 : D)).bind fun t21 =>
  (gd t21 false (some ((nth 0 r.2.1) : D))).bind fun t22 =>
  (gd t21 false (dLenT tab ty9 t22)).bind fun t23 =>
  (gd t21 false (dBin tab .gtr ty3 t23 (.int .i64 18))).bind fun t24 =>
  (dPick t21 (.bool true) t24).bind fun t25 =>
  dIf t25
    ((some (.int .i64 0 : D)).bind fun t2_1 =>
    (some (.bool false : D)).bind fun t3_1 =>
    ((some (t2_1 : D)).bind fun d => ((some (t3_1 : D)).bind fun d => (some ([] : List D)).bind fun ds => some (d :: ds)).bind fun ds => some (d :: ds)).bind fun ds => some (mkRes ds, r.2.2))
    ((some (.int .i64 0 : D)).bind fun t5 =>
  (some (.int .i64 0 : D)).bind fun t6 =>
  ((loopW (F1204_L0 r) [t2, t3, t5, t6, .any, .any] r.2.2).bind fun r_1 =>
    some ((unblk 0 r_1.1), [(nth 0 r_1.2.1), (nth 1 r_1.2.1), (nth 2 r_1.2.1), (nth 3 r_1.2.1), (nth 4 r_1.2.1), (nth 5 r_1.2.1)], r_1.2.2)).bind fun r_2 =>
  toEnd r_2.1 ((some ((nth 0 r.2.1) : D)).bind fun t45 =>
  (dLenT tab ty9 t45).bind fun t46 =>
  (some (t0 : D)).bind fun t47 =>
  (dLenT tab ty9 t47).bind fun t48 =>
  (dBin tab .lss ty3 t46 t48).bind fun t49 =>
  (dIf t49
    ((some ((nth 2 r_2.2.1) : D)).bind fun t50 =>
    (dUn .neg t50).bind fun t51 =>
    (some (t51 : D)).bind fun t5_2 =>
    some (.nrm, [t5_2], r_2.2.2))
    (some (.nrm, [(nth 2 r_2.2.1)], r_2.2.2))).bind fun r_3 =>
  toEnd r_3.1 ((some ((nth 0 r_3.2.1) : D)).bind fun t52 =>
  (some (t52 : D)).bind fun t2_3 =>
  (some (.bool true : D)).bind fun t3_3 =>
  ((some (t2_3 : D)).bind fun d => ((some (t3_3 : D)).bind fun d => (some ([] : List D)).bind fun ds => some (d :: ds)).bind fun ds => some (d :: ds)).bind fun ds => some (mkRes ds, r_3.2.2)) fun x_2 => exEnd x_2 (((some ((nth 0 r_2.2.1) : D)).bind fun d => ((some ((nth 1 r_2.2.1) : D)).bind fun d => (some ([] : List D)).bind fun ds => some (d :: ds)).bind fun ds => some (d :: ds)).bind fun ds => some (mkRes ds, r_3.2.2))) fun x_1 => exEnd x_1 (((some ((nth 0 r_2.2.1) : D)).bind fun d => ((some ((nth 1 r_2.2.1) : D)).bind fun d => (some ([] : List D)).bind fun ds => some (d :: ds)).bind fun ds => some (d :: ds)).bind fun ds => some (mkRes ds, r_2.2.2)))) fun x => exEnd x (((some (t2 : D)).bind fun d => ((some (t3 : D)).bind fun d => (some ([] : List D)).bind fun ds => some (d :: ds)).bind fun ds => some (d :: ds)).bind fun ds => some (mkRes ds, r.2.2))
theorem e1204 (t0 : D) (h : Hp) : R fn1204 [t0] h = F1204 t0 h :=
  (run_fn (X := X) (F := Fs) (fi := i62) (by kernel_rfl) _ _).trans (by kernel_rfl)
noncomputable def F1205 (t0 : D) (h : Hp) : Option (D × Hp) :=
  (some (.bool false : D)).bind fun t2 =>
  (some (t0 : D)).bind fun t3 =>
  (dBin tab .geq ty5 t3 (.int .u8 48)).bind fun t4 =>
  (some (t4 : D)).bind fun t5 =>
  (gd t5 true (some (t0 : D))).bind fun t6 =>
  (gd t5 true (dBin tab .leq ty5 t6 (.int .u8 57))).bind fun t7 =>
  (dPick t5 t7 (.bool false)).bind fun t8 =>
  (some (t8 : D)).bind fun t2_1 =>
  ((some (t2_1 : D)).bind fun d => (some ([] : List D)).bind fun ds => some (d :: ds)).bind fun ds => some (mkRes ds, h)
theorem e1205 (t0 : D) (h : Hp) : R fn1205 [t0] h = F1205 t0 h :=
  (run_fn (X := X) (F := Fs) (fi := i63) (by kernel_rfl) _ _).trans (by kernel_rfl)
end Go.Proofs.Yteglojieneaojaa
