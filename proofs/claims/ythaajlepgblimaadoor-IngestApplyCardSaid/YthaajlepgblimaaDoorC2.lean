/- Functions as Lean functions on data. -/
import Derived.Test.YthaajlepgblimaaDoorC1
set_option linter.unusedSimpArgs false
set_option linter.unusedVariables false
set_option linter.unnecessarySimpa false
set_option maxRecDepth 100000
namespace Go.Proofs.YthaajlepgblimaaDoor
open Go.Eng Go.Pi
noncomputable def F1016_L0 (t0 : D) (t2 : D) (t4 : D) (ds : List D) (h_1 : Hp) : Option Out :=
 (some (nth 0 ds)).bind fun t15 =>
 (some (nth 1 ds)).bind fun t16 =>
 (dBin tab .lss ty3 t15 t16).bind fun t17 =>
 dIf t17
   ((some (nth 0 ds)).bind fun t18 =>
 (some (nth 1 ds)).bind fun t19 =>
 (dBin tab .add ty3 t18 t19).bind fun t20 =>
 (dConv tab ty3 ty134 t20).bind fun t21 =>
 (dBin tab .shr ty134 t21 (.int .u64 1)).bind fun t22 =>
 (dConv tab ty134 ty3 t22).bind fun t23 =>
 (some t23).bind fun t11 =>
 (some t2).bind fun t24 =>
 (some t0).bind fun t25 =>
 (some t11).bind fun t26 =>
 (dIndexAddr tab ty1007 t25 t26).bind fun t27 =>
 (dLoad tab h_1 ty1006 t27).bind fun t28 =>
 (dLoad tab h_1 ty1006 t4).bind fun t29 =>
 (callV R t24 [t28, t29] h_1).bind fun p30 =>
 (dBin tab .lss ty3 p30.1 (.int .i64 0)).bind fun t31 =>
 (dIf t31
   ((some t11).bind fun t32 =>
 (dBin tab .add ty3 t32 (.int .i64 1)).bind fun t33 =>
 (some t33).bind fun t9_1 =>
 some (.nrm, [t9_1, (nth 1 ds)], p30.2))
   ((some t11).bind fun t34 =>
 (some t34).bind fun t10_1 =>
 some (.nrm, [(nth 0 ds), t10_1], p30.2))).bind fun r_1 =>
 some ((unblk 1 r_1.1), [(nth 0 r_1.2.1), (nth 1 r_1.2.1), t11, t17, t31], r_1.2.2))
   (some ((.ext 0), [(nth 0 ds), (nth 1 ds), (nth 2 ds), t17, (nth 4 ds)], h_1))
noncomputable def F1016 (t0 : D) (t1 : D) (t2 : D) (h : Hp) : Option (D × Hp) :=
  (pBoxF t1).bind fun t4 =>
 (some (.int .i64 0 : D)).bind fun t6 =>
 (some (.bool false : D)).bind fun t7 =>
 (some t0).bind fun t12 =>
 (dLenT tab ty1007 t12).bind fun t13 =>
 (some t13).bind fun t8 =>
 (some t8).bind fun t14 =>
 (some (.int .i64 0 : D)).bind fun t9 =>
 (some t14).bind fun t10 =>
 ((loopW (F1016_L0 t0 t2 t4) [t9, t10, .any, .any, .any] h).bind fun r =>
 some ((unblk 0 r.1), [(nth 0 r.2.1), (nth 1 r.2.1), (nth 2 r.2.1), (nth 3 r.2.1), (nth 4 r.2.1)], r.2.2)).bind fun r_2 =>
 toEnd r_2.1 ((some (nth 0 r_2.2.1)).bind fun t35 =>
 (some (nth 0 r_2.2.1)).bind fun t36 =>
 (some t8).bind fun t37 =>
 (dBin tab .lss ty3 t36 t37).bind fun t38 =>
 (some t38).bind fun t39 =>
 (gd t39 true (some t2)).bind fun t40 =>
 (gd t39 true (some t0)).bind fun t41 =>
 (gd t39 true (some (nth 0 r_2.2.1))).bind fun t42 =>
 (gd t39 true (dIndexAddr tab ty1007 t41 t42)).bind fun t43 =>
 (gd t39 true (dLoad tab r_2.2.2 ty1006 t43)).bind fun t44 =>
 (gd t39 true (dLoad tab r_2.2.2 ty1006 t4)).bind fun t45 =>
 (gdW t39 true r_2.2.2 (callV R t40 [t44, t45] r_2.2.2)).bind fun p46 =>
 (gd t39 true (dBin tab .eql ty3 p46.1 (.int .i64 0))).bind fun t47 =>
 (dPick t39 t47 (.bool false)).bind fun t48 =>
 (some t35).bind fun t6_1 =>
 (some t48).bind fun t7_1 =>
 ((some t6_1).bind fun d => ((some t7_1).bind fun d => (some ([] : List D)).bind fun ds => some (d :: ds)).bind fun ds => some (d :: ds)).bind fun ds => some (mkRes ds, p46.2)) fun x => exEnd x (((some t6).bind fun d => ((some t7).bind fun d => (some ([] : List D)).bind fun ds => some (d :: ds)).bind fun ds => some (d :: ds)).bind fun ds => some (mkRes ds, r_2.2.2))
theorem e1016 (t0 : D) (t1 : D) (t2 : D) (h : Hp) : R fn1016 [t0, t1, t2] h = F1016 t0 t1 t2 h :=
  (run_fn (X := X) (F := Fs) (fi := i56) (by kernel_rfl) _ _).trans (by kernel_rfl)
noncomputable def F1017 (t0 : D) (t1 : D) (h : Hp) : Option (D × Hp) :=
  (pBoxF t0).bind fun t2 =>
 (pBoxF t1).bind fun t3 =>
 (some (.int .i64 0 : D)).bind fun t4 =>
 (dFieldAddr tab ty1006 0 t2).bind fun t5 =>
 (dLoad tab h ty3 t5).bind fun t6 =>
 (dFieldAddr tab ty1006 0 t3).bind fun t7 =>
 (dLoad tab h ty3 t7).bind fun t8 =>
 (R fn90 [t6, t8] h).bind fun p9 =>
 (dFieldAddr tab ty1006 1 t2).bind fun t10 =>
 (dLoad tab p9.2 ty3 t10).bind fun t11 =>
 (dFieldAddr tab ty1006 1 t3).bind fun t12 =>
 (dLoad tab p9.2 ty3 t12).bind fun t13 =>
 (R fn90 [t11, t13] p9.2).bind fun p14 =>
 (pLitF tab ty82 2 [0, 1] [p9.1, p14.1]).bind fun t15 =>
 (R fn89 [t15] p14.2).bind fun p16 =>
 chk (dLoad tab h ty3 t10 = some t11)
 (chk (dLoad tab h ty3 t12 = some t13)
 ((some p16.1).bind fun t4_1 =>
 ((some t4_1).bind fun d => (some ([] : List D)).bind fun ds => some (d :: ds)).bind fun ds => some (mkRes ds, p16.2)))
theorem e1017 (t0 : D) (t1 : D) (h : Hp) : R fn1017 [t0, t1] h = F1017 t0 t1 h :=
  (run_fn (X := X) (F := Fs) (fi := i57) (by kernel_rfl) _ _).trans (by kernel_rfl)
noncomputable def F89_L0 (t3 : D) (t6 : D) (t7 : D) (ds : List D) (h_1 : Hp) : Option Out :=
 (dBin tab .lss ty3 (nth 2 ds) t7).bind fun t9 =>
 dIf t9
   ((dIndexAddr tab ty82 t6 (nth 2 ds)).bind fun t10 =>
 (dLoad tab h_1 ty3 t10).bind fun t11 =>
 (some t11).bind fun t5 =>
 (some t5).bind fun t12 =>
 (some t3).bind fun t13 =>
 (dBin tab .neq ty3 t12 t13).bind fun t14 =>
 dIf t14
   ((some t5).bind fun t15 =>
 (some t15).bind fun t2_1 =>
 some (.ret, [t2_1, t5, (nth 2 ds), t9, t14], h_1))
   ((dBin tab .add ty3 (nth 2 ds) (.int .i64 1)).bind fun t16 =>
 (some t16).bind fun t8_1 =>
 some (.nrm, [(nth 0 ds), t5, t8_1, t9, t14], h_1)))
   (some ((.ext 0), [(nth 0 ds), (nth 1 ds), (nth 2 ds), t9, (nth 4 ds)], h_1))
noncomputable def F89 (t0 : D) (h : Hp) : Option (D × Hp) :=
  (some (.int .i64 0 : D)).bind fun t2 =>
 (some (.int .i64 0 : D)).bind fun t3 =>
 (some t0).bind fun t6 =>
 (dLenT tab ty82 t6).bind fun t7 =>
 (some (.int .i64 0 : D)).bind fun t8 =>
 ((loopW (F89_L0 t3 t6 t7) [t2, .any, t8, .any, .any] h).bind fun r =>
 some ((unblk 0 r.1), [(nth 0 r.2.1), (nth 1 r.2.1), (nth 2 r.2.1), (nth 3 r.2.1), (nth 4 r.2.1)], r.2.2)).bind fun r_1 =>
 toEnd r_1.1 ((some t3).bind fun t17 =>
 (some t17).bind fun t2_2 =>
 ((some t2_2).bind fun d => (some ([] : List D)).bind fun ds => some (d :: ds)).bind fun ds => some (mkRes ds, r_1.2.2)) fun x => exEnd x (((some (nth 0 r_1.2.1)).bind fun d => (some ([] : List D)).bind fun ds => some (d :: ds)).bind fun ds => some (mkRes ds, r_1.2.2))
theorem e89 (t0 : D) (h : Hp) : R fn89 [t0] h = F89 t0 h :=
  (run_fn (X := X) (F := Fs) (fi := i58) (by kernel_rfl) _ _).trans (by kernel_rfl)
noncomputable def F90 (t0 : D) (t1 : D) (h : Hp) : Option (D × Hp) :=
  (some (.int .i64 0 : D)).bind fun t4 =>
 (some t0).bind fun t7 =>
 (R fn99 [t7] h).bind fun p8 =>
 (some p8.1).bind fun t5 =>
 (some t1).bind fun t9 =>
 (R fn99 [t9] p8.2).bind fun p10 =>
 (some p10.1).bind fun t6 =>
 (some t5).bind fun t11 =>
 dIf t11
   ((some t6).bind fun t12 =>
 dIf t12
   ((some (.int .i64 0 : D)).bind fun t4_1 =>
 ((some t4_1).bind fun d => (some ([] : List D)).bind fun ds => some (d :: ds)).bind fun ds => some (mkRes ds, p10.2))
   ((some (.int .i64 (-1) : D)).bind fun t4_2 =>
 ((some t4_2).bind fun d => (some ([] : List D)).bind fun ds => some (d :: ds)).bind fun ds => some (mkRes ds, p10.2)))
   ((some t6).bind fun t13 =>
 dIf t13
   ((some (.int .i64 1 : D)).bind fun t4_3 =>
 ((some t4_3).bind fun d => (some ([] : List D)).bind fun ds => some (d :: ds)).bind fun ds => some (mkRes ds, p10.2))
   ((some t0).bind fun t14 =>
 (some t1).bind fun t15 =>
 (dBin tab .lss ty3 t14 t15).bind fun t16 =>
 dIf t16
   ((some (.int .i64 (-1) : D)).bind fun t4_4 =>
 ((some t4_4).bind fun d => (some ([] : List D)).bind fun ds => some (d :: ds)).bind fun ds => some (mkRes ds, p10.2))
   ((some t0).bind fun t17 =>
 (some t1).bind fun t18 =>
 (dBin tab .gtr ty3 t17 t18).bind fun t19 =>
 dIf t19
   ((some (.int .i64 1 : D)).bind fun t4_5 =>
 ((some t4_5).bind fun d => (some ([] : List D)).bind fun ds => some (d :: ds)).bind fun ds => some (mkRes ds, p10.2))
   ((some (.int .i64 0 : D)).bind fun t4_6 =>
 ((some t4_6).bind fun d => (some ([] : List D)).bind fun ds => some (d :: ds)).bind fun ds => some (mkRes ds, p10.2)))))
theorem e90 (t0 : D) (t1 : D) (h : Hp) : R fn90 [t0, t1] h = F90 t0 t1 h :=
  (run_fn (X := X) (F := Fs) (fi := i59) (by kernel_rfl) _ _).trans (by kernel_rfl)
noncomputable def F1051 (t0 : D) (t1 : D) (t2 : D) (h : Hp) : Option (D × Hp) :=
  (some (.bool false : D)).bind fun t6 =>
 (some t1).bind fun t7 =>
 (some t0).bind fun t8 =>
 (dBin tab .leq ty3 t7 t8).bind fun t9 =>
 (some t9).bind fun t10 =>
 (gd t10 true (some t0)).bind fun t11 =>
 (gd t10 true (some t2)).bind fun t12 =>
 (gd t10 true (dBin tab .leq ty3 t11 t12)).bind fun t13 =>
 (dPick t10 t13 (.bool false)).bind fun t14 =>
 (some t14).bind fun t6_1 =>
 ((some t6_1).bind fun d => (some ([] : List D)).bind fun ds => some (d :: ds)).bind fun ds => some (mkRes ds, h)
theorem e1051 (t0 : D) (t1 : D) (t2 : D) (h : Hp) : R fn1051 [t0, t1, t2] h = F1051 t0 t1 t2 h :=
  (run_fn (X := X) (F := Fs) (fi := i60) (by kernel_rfl) _ _).trans (by kernel_rfl)
noncomputable def F1052_L0 (t10 : D) (t11 : D) (ds : List D) (h_1 : Hp) : Option Out :=
 (dBin tab .lss ty3 (nth 3 ds) t11).bind fun t13 =>
 dIf t13
   ((dIndexAddr tab ty29 t10 (nth 3 ds)).bind fun t14 =>
 (dLoad tab h_1 ty109 t14).bind fun t15 =>
 (boxN 2 t15).bind fun t5 =>
 (dFieldAddr tab ty109 0 t5).bind fun t16 =>
 (dLoad tab h_1 ty9 t16).bind fun t17 =>
 (R fn1056 [t17] h_1).bind fun p18 =>
 (dUn .not p18.1).bind fun t19 =>
 dIf t19
   ((some (.nils : D)).bind fun t2_2 =>
 (some (.int .i64 6 : D)).bind fun t3_2 =>
 some (.ret, [t2_2, t3_2, t5, (nth 3 ds), t13, t19], p18.2))
   ((dBin tab .add ty3 (nth 3 ds) (.int .i64 1)).bind fun t20 =>
 (some t20).bind fun t12_1 =>
 some (.nrm, [(nth 0 ds), (nth 1 ds), t5, t12_1, t13, t19], p18.2)))
   (some ((.ext 0), [(nth 0 ds), (nth 1 ds), (nth 2 ds), (nth 3 ds), t13, (nth 5 ds)], h_1))
noncomputable def F1052_L1 (t0_1 : D) (ds_1 : List D) (h_2 : Hp) : Option Out :=
 (some (nth 2 ds_1)).bind fun t25 =>
 (some t0_1).bind fun t26 =>
 (dLenT tab ty29 t26).bind fun t27 =>
 (dBin tab .lss ty3 t25 t27).bind fun t28 =>
 dIf t28
   ((some t0_1).bind fun t31 =>
 (some (nth 2 ds_1)).bind fun t32 =>
 (dIndexAddr tab ty29 t31 t32).bind fun t33 =>
 (dFieldAddr tab ty109 0 t33).bind fun t34 =>
 (dLoad tab h_2 ty9 t34).bind fun t35 =>
 (some t0_1).bind fun t36 =>
 (some (nth 2 ds_1)).bind fun t37 =>
 (dBin tab .sub ty3 t37 (.int .i64 1)).bind fun t38 =>
 (dIndexAddr tab ty29 t36 t38).bind fun t39 =>
 (dFieldAddr tab ty109 0 t39).bind fun t40 =>
 (dLoad tab h_2 ty9 t40).bind fun t41 =>
 (dBin tab .eql ty9 t35 t41).bind fun t42 =>
 dIf t42
   ((some (.nils : D)).bind fun t2_3 =>
 (some (.int .i64 7 : D)).bind fun t3_3 =>
 some (.ret, [t2_3, t3_3, (nth 2 ds_1), t28, t42], h_2))
   ((some (nth 2 ds_1)).bind fun t29 =>
 (dBin tab .add ty3 t29 (.int .i64 1)).bind fun t30 =>
 (some t30).bind fun t6_1 =>
 some (.nrm, [(nth 0 ds_1), (nth 1 ds_1), t6_1, t28, t42], h_2)))
   (some ((.ext 2), [(nth 0 ds_1), (nth 1 ds_1), (nth 2 ds_1), t28, (nth 4 ds_1)], h_2))
noncomputable def F1052 (t0 : D) (h : Hp) : Option (D × Hp) :=
  (some (.nils : D)).bind fun t2 =>
 (some (.int .i64 0 : D)).bind fun t3 =>
 (some t0).bind fun t7 =>
 (dLenT tab ty29 t7).bind fun t8 =>
 (dBin tab .gtr ty3 t8 (.int .i64 32)).bind fun t9 =>
 dIf t9
   ((some (.nils : D)).bind fun t2_1 =>
 (some (.int .i64 4 : D)).bind fun t3_1 =>
 ((some t2_1).bind fun d => ((some t3_1).bind fun d => (some ([] : List D)).bind fun ds => some (d :: ds)).bind fun ds => some (d :: ds)).bind fun ds => some (mkRes ds, h))
   ((some t0).bind fun t10 =>
 (dLenT tab ty29 t10).bind fun t11 =>
 (some (.int .i64 0 : D)).bind fun t12 =>
 ((loopW (F1052_L0 t10 t11) [t2, t3, .any, t12, .any, .any] h).bind fun r =>
 some ((unblk 0 r.1), [(nth 0 r.2.1), (nth 1 r.2.1), (nth 2 r.2.1), (nth 3 r.2.1), (nth 4 r.2.1), (nth 5 r.2.1)], r.2.2)).bind fun r_1 =>
 toEnd r_1.1 ((some t0).bind fun t21 =>
 (R fn1009 [t21] r_1.2.2).bind fun p22 =>
 (some p22.1).bind fun t0_1 =>
 (some t0_1).bind fun t23 =>
 (R fn1057 [t23, .fn (.func fn1058) [] []] p22.2).bind fun p24 =>
 (some (.int .i64 1 : D)).bind fun t6 =>
 ((loopW (F1052_L1 t0_1) [(nth 0 r_1.2.1), (nth 1 r_1.2.1), t6, .any, .any] p24.2).bind fun r_2 =>
 some ((unblk 2 r_2.1), [(nth 0 r_2.2.1), (nth 1 r_2.2.1), (nth 2 r_2.2.1), (nth 3 r_2.2.1), (nth 4 r_2.2.1)], r_2.2.2)).bind fun r_3 =>
 toEnd r_3.1 ((some t0_1).bind fun t43 =>
 (some t43).bind fun t2_4 =>
 (some (.int .i64 0 : D)).bind fun t3_4 =>
 ((some t2_4).bind fun d => ((some t3_4).bind fun d => (some ([] : List D)).bind fun ds => some (d :: ds)).bind fun ds => some (d :: ds)).bind fun ds => some (mkRes ds, r_3.2.2)) fun x_1 => exEnd x_1 (((some (nth 0 r_3.2.1)).bind fun d => ((some (nth 1 r_3.2.1)).bind fun d => (some ([] : List D)).bind fun ds => some (d :: ds)).bind fun ds => some (d :: ds)).bind fun ds => some (mkRes ds, r_3.2.2))) fun x => exEnd x (((some (nth 0 r_1.2.1)).bind fun d => ((some (nth 1 r_1.2.1)).bind fun d => (some ([] : List D)).bind fun ds => some (d :: ds)).bind fun ds => some (d :: ds)).bind fun ds => some (mkRes ds, r_1.2.2)))
theorem e1052 (t0 : D) (h : Hp) : R fn1052 [t0] h = F1052 t0 h :=
  (run_fn (X := X) (F := Fs) (fi := i61) (by kernel_rfl) _ _).trans (by kernel_rfl)
noncomputable def F1053_L0 (t0 : D) (t1 : D) (t12 : D) (ds : List D) (h_1 : Hp) : Option Out :=
 (dBin tab .lss ty3 (nth 2 ds) t12).bind fun t14 =>
 dIf t14
   ((some (nth 2 ds)).bind fun t15 =>
 (some t15).bind fun t5 =>
 (some t0).bind fun t16 =>
 (some t5).bind fun t17 =>
 (dIndexAddr tab ty29 t16 t17).bind fun t18 =>
 (dLoad tab h_1 ty109 t18).bind fun t19 =>
 (some t1).bind fun t20 =>
 (some t5).bind fun t21 =>
 (dIndexAddr tab ty29 t20 t21).bind fun t22 =>
 (dLoad tab h_1 ty109 t22).bind fun t23 =>
 (dBin tab .neq ty109 t19 t23).bind fun t24 =>
 dIf t24
   ((some (.bool false : D)).bind fun t4_2 =>
 some (.ret, [t4_2, t5, (nth 2 ds), t14, t24], h_1))
   ((dBin tab .add ty3 (nth 2 ds) (.int .i64 1)).bind fun t25 =>
 (some t25).bind fun t13_1 =>
 some (.nrm, [(nth 0 ds), t5, t13_1, t14, t24], h_1)))
   (some ((.ext 0), [(nth 0 ds), (nth 1 ds), (nth 2 ds), t14, (nth 4 ds)], h_1))
noncomputable def F1053 (t0 : D) (t1 : D) (h : Hp) : Option (D × Hp) :=
  (some (.bool false : D)).bind fun t4 =>
 (some t0).bind fun t6 =>
 (dLenT tab ty29 t6).bind fun t7 =>
 (some t1).bind fun t8 =>
 (dLenT tab ty29 t8).bind fun t9 =>
 (dBin tab .neq ty3 t7 t9).bind fun t10 =>
 dIf t10
   ((some (.bool false : D)).bind fun t4_1 =>
 ((some t4_1).bind fun d => (some ([] : List D)).bind fun ds => some (d :: ds)).bind fun ds => some (mkRes ds, h))
   ((some t0).bind fun t11 =>
 (dLenT tab ty29 t11).bind fun t12 =>
 (some (.int .i64 0 : D)).bind fun t13 =>
 ((loopW (F1053_L0 t0 t1 t12) [t4, .any, t13, .any, .any] h).bind fun r =>
 some ((unblk 0 r.1), [(nth 0 r.2.1), (nth 1 r.2.1), (nth 2 r.2.1), (nth 3 r.2.1), (nth 4 r.2.1)], r.2.2)).bind fun r_1 =>
 toEnd r_1.1 ((some (.bool true : D)).bind fun t4_3 =>
 ((some t4_3).bind fun d => (some ([] : List D)).bind fun ds => some (d :: ds)).bind fun ds => some (mkRes ds, r_1.2.2)) fun x => exEnd x (((some (nth 0 r_1.2.1)).bind fun d => (some ([] : List D)).bind fun ds => some (d :: ds)).bind fun ds => some (mkRes ds, r_1.2.2)))
theorem e1053 (t0 : D) (t1 : D) (h : Hp) : R fn1053 [t0, t1] h = F1053 t0 t1 h :=
  (run_fn (X := X) (F := Fs) (fi := i62) (by kernel_rfl) _ _).trans (by kernel_rfl)
noncomputable def F1054 (t0 : D) (t1 : D) (h : Hp) : Option (D × Hp) :=
  (some (.bool false : D)).bind fun t4 =>
 (some t0).bind fun t5 =>
 (some t1).bind fun t6 =>
 (R fn1060 [t5, t6] h).bind fun p7 =>
 (dBin tab .geq ty3 p7.1 (.int .i64 0)).bind fun t8 =>
 (some t8).bind fun t4_1 =>
 ((some t4_1).bind fun d => (some ([] : List D)).bind fun ds => some (d :: ds)).bind fun ds => some (mkRes ds, p7.2)
theorem e1054 (t0 : D) (t1 : D) (h : Hp) : R fn1054 [t0, t1] h = F1054 t0 t1 h :=
  (run_fn (X := X) (F := Fs) (fi := i63) (by kernel_rfl) _ _).trans (by kernel_rfl)
noncomputable def F1055 (t0 : D) (h : Hp) : Option (D × Hp) :=
  (pBoxF t0).bind fun t1 =>
 (some (.bool false : D)).bind fun t2 =>
 (dFieldAddr tab ty109 1 t1).bind fun t3 =>
 (dLoad tab h ty9 t3).bind fun t4 =>
 (dLenT tab ty9 t4).bind fun t5 =>
 (dBin tab .gtr ty3 t5 (.int .i64 2000)).bind fun t6 =>
 (some t6).bind fun t2_1 =>
 ((some t2_1).bind fun d => (some ([] : List D)).bind fun ds => some (d :: ds)).bind fun ds => some (mkRes ds, h)
theorem e1055 (t0 : D) (h : Hp) : R fn1055 [t0] h = F1055 t0 h :=
  (run_fn (X := X) (F := Fs) (fi := i64) (by kernel_rfl) _ _).trans (by kernel_rfl)
noncomputable def F1006_L0 (t0 : D) (t1 : D) (t7 : D) (ds : List D) (h_1 : Hp) : Option Out :=
 (dBin tab .lss ty3 (nth 2 ds) t7).bind fun t9 =>
 dIf t9
   ((some (nth 2 ds)).bind fun t10 =>
 (some t10).bind fun t5 =>
 (some t1).bind fun t11 =>
 (some t0).bind fun t12 =>
 (some t5).bind fun t13 =>
 (dIndexAddr tab ty28 t12 t13).bind fun t14 =>
 (dLoad tab h_1 ty78 t14).bind fun t15 =>
 (callV R t11 [t15] h_1).bind fun p16 =>
 dIf p16.1
   ((some t5).bind fun t17 =>
 (some t17).bind fun t4_1 =>
 some (.ret, [t4_1, t5, (nth 2 ds), t9, p16.1], p16.2))
   ((dBin tab .add ty3 (nth 2 ds) (.int .i64 1)).bind fun t18 =>
 (some t18).bind fun t8_1 =>
 some (.nrm, [(nth 0 ds), t5, t8_1, t9, p16.1], p16.2)))
   (some ((.ext 0), [(nth 0 ds), (nth 1 ds), (nth 2 ds), t9, (nth 4 ds)], h_1))
noncomputable def F1006 (t0 : D) (t1 : D) (h : Hp) : Option (D × Hp) :=
  (some (.int .i64 0 : D)).bind fun t4 =>
 (some t0).bind fun t6 =>
 (dLenT tab ty28 t6).bind fun t7 =>
 (some (.int .i64 0 : D)).bind fun t8 =>
 ((loopW (F1006_L0 t0 t1 t7) [t4, .any, t8, .any, .any] h).bind fun r =>
 some ((unblk 0 r.1), [(nth 0 r.2.1), (nth 1 r.2.1), (nth 2 r.2.1), (nth 3 r.2.1), (nth 4 r.2.1)], r.2.2)).bind fun r_1 =>
 toEnd r_1.1 ((some (.int .i64 (-1) : D)).bind fun t4_2 =>
 ((some t4_2).bind fun d => (some ([] : List D)).bind fun ds => some (d :: ds)).bind fun ds => some (mkRes ds, r_1.2.2)) fun x => exEnd x (((some (nth 0 r_1.2.1)).bind fun d => (some ([] : List D)).bind fun ds => some (d :: ds)).bind fun ds => some (mkRes ds, r_1.2.2))
theorem e1006 (t0 : D) (t1 : D) (h : Hp) : R fn1006 [t0, t1] h = F1006 t0 t1 h :=
  (run_fn (X := X) (F := Fs) (fi := i65) (by kernel_rfl) _ _).trans (by kernel_rfl)
noncomputable def F1014 (t0 : D) (h : Hp) : Option (D × Hp) :=
  (some (.bool false : D)).bind fun t2 =>
 (some t0).bind fun t3 =>
 (dBin tab .geq ty3 t3 (.int .i64 1)).bind fun t4 =>
 (some t4).bind fun t5 =>
 (gd t5 true (some t0)).bind fun t6 =>
 (gd t5 true (dBin tab .leq ty3 t6 (.int .i64 5040))).bind fun t7 =>
 (dPick t5 t7 (.bool false)).bind fun t8 =>
 (some t8).bind fun t9 =>
 (gd t9 true (some t0)).bind fun t10 =>
 (gd t9 true (dBin tab .rem ty3 (.int .i64 5040) t10)).bind fun t11 =>
 (gd t9 true (dBin tab .eql ty3 t11 (.int .i64 0))).bind fun t12 =>
 (dPick t9 t12 (.bool false)).bind fun t13 =>
 (some t13).bind fun t2_1 =>
 ((some t2_1).bind fun d => (some ([] : List D)).bind fun ds => some (d :: ds)).bind fun ds => some (mkRes ds, h)
theorem e1014 (t0 : D) (h : Hp) : R fn1014 [t0] h = F1014 t0 h :=
  (run_fn (X := X) (F := Fs) (fi := i66) (by kernel_rfl) _ _).trans (by kernel_rfl)
noncomputable def F1015_L0 (t0 : D) (ds : List D) (h_1 : Hp) : Option Out :=
 (some (nth 2 ds)).bind fun t11 =>
 (some t0).bind fun t12 =>
 (dLenT tab ty29 t12).bind fun t13 =>
 (dBin tab .lss ty3 t11 t13).bind fun t14 =>
 dIf t14
   ((some t0).bind fun t17 =>
 (some (nth 2 ds)).bind fun t18 =>
 (dIndexAddr tab ty29 t17 t18).bind fun t19 =>
 (dFieldAddr tab ty109 0 t19).bind fun t20 =>
 (dLoad tab h_1 ty9 t20).bind fun t21 =>
 (R fn1018 [t21] h_1).bind fun p22 =>
 (dUn .not p22.1).bind fun t23 =>
 dIf t23
   ((some (.nils : D)).bind fun t2_2 =>
 (some (.int .i64 6 : D)).bind fun t3_2 =>
 some (.ret, [t2_2, t3_2, (nth 2 ds), t14, t23], p22.2))
   ((some (nth 2 ds)).bind fun t15 =>
 (dBin tab .add ty3 t15 (.int .i64 1)).bind fun t16 =>
 (some t16).bind fun t4_1 =>
 some (.nrm, [(nth 0 ds), (nth 1 ds), t4_1, t14, t23], p22.2)))
   (some ((.ext 0), [(nth 0 ds), (nth 1 ds), (nth 2 ds), t14, (nth 4 ds)], h_1))
noncomputable def F1015_L2 (t0 : D) (ds_1 : List D) (t5_1 : D) (ds_2 : List D) (h_3 : Hp) : Option Out :=
 (some (nth 0 ds_2)).bind fun t39 =>
 (dBin tab .gtr ty3 t39 (.int .i64 0)).bind fun t40 =>
 (some t40).bind fun t41 =>
 (gd t41 true (some t5_1)).bind fun t42 =>
 (gd t41 true (some (nth 0 ds_2))).bind fun t43 =>
 (gd t41 true (dBin tab .sub ty3 t43 (.int .i64 1))).bind fun t44 =>
 (gd t41 true (dIndexAddr tab ty29 t42 t44)).bind fun t45 =>
 (gd t41 true (dFieldAddr tab ty109 0 t45)).bind fun t46 =>
 (gd t41 true (dLoad tab h_3 ty9 t46)).bind fun t47 =>
 (gd t41 true (some t0)).bind fun t48 =>
 (gd t41 true (some (nth 3 ds_1))).bind fun t49 =>
 (gd t41 true (dIndexAddr tab ty29 t48 t49)).bind fun t50 =>
 (gd t41 true (dFieldAddr tab ty109 0 t50)).bind fun t51 =>
 (gd t41 true (dLoad tab h_3 ty9 t51)).bind fun t52 =>
 (gd t41 true (dBin tab .gtr ty9 t47 t52)).bind fun t53 =>
 (dPick t41 t53 (.bool false)).bind fun t54 =>
 dIf t54
   ((some t5_1).bind fun t55 =>
 (some (nth 0 ds_2)).bind fun t56 =>
 (some t5_1).bind fun t57 =>
 (some (nth 0 ds_2)).bind fun t58 =>
 (dBin tab .sub ty3 t58 (.int .i64 1)).bind fun t59 =>
 (dIndexAddr tab ty29 t57 t59).bind fun t60 =>
 (dLoad tab h_3 ty109 t60).bind fun t61 =>
 (dIndexAddr tab ty29 t55 t56).bind fun t62 =>
 ((dStore tab h_3 ty109 t62 t61).bind fun h' => some ((.und : D), h')).bind fun p908 =>
 (some (nth 0 ds_2)).bind fun t63 =>
 (dBin tab .sub ty3 t63 (.int .i64 1)).bind fun t64 =>
 (some t64).bind fun t7_1 =>
 some (.nrm, [t7_1, t54], p908.2))
   (some ((.ext 4), [(nth 0 ds_2), t54], h_3))
noncomputable def F1015_L1 (t0 : D) (ds_1 : List D) (h_2 : Hp) : Option Out :=
 (some (nth 3 ds_1)).bind fun t24 =>
 (some t0).bind fun t25 =>
 (dLenT tab ty29 t25).bind fun t26 =>
 (dBin tab .lss ty3 t24 t26).bind fun t27 =>
 dIf t27
   ((some (nth 2 ds_1)).bind fun t30 =>
 (dLenT tab ty29 t30).bind fun t31 =>
 (some t31).bind fun t7 =>
 (some (nth 2 ds_1)).bind fun t32 =>
 (some t0).bind fun t33 =>
 (some (nth 3 ds_1)).bind fun t34 =>
 (dIndexAddr tab ty29 t33 t34).bind fun t35 =>
 (dLoad tab h_2 ty109 t35).bind fun t36 =>
 (pLitF tab ty29 1 [0] [t36]).bind fun t37 =>
 (dAppend tab h_2 ty29 ty29 t32 t37).bind fun p38 =>
 (some p38.1).bind fun t5_1 =>
 ((loopW (F1015_L2 t0 ds_1 t5_1) [t7, (nth 6 ds_1)] p38.2).bind fun r_3 =>
 some ((unblk 4 r_3.1), [(nth 0 r_3.2.1), (nth 1 r_3.2.1)], r_3.2.2)).bind fun r_4 =>
 toEnd r_4.1 ((some t5_1).bind fun t65 =>
 (some (nth 0 r_4.2.1)).bind fun t66 =>
 (some t0).bind fun t67 =>
 (some (nth 3 ds_1)).bind fun t68 =>
 (dIndexAddr tab ty29 t67 t68).bind fun t69 =>
 (dLoad tab r_4.2.2 ty109 t69).bind fun t70 =>
 (dIndexAddr tab ty29 t65 t66).bind fun t71 =>
 ((dStore tab r_4.2.2 ty109 t71 t70).bind fun h' => some ((.und : D), h')).bind fun p907 =>
 (some (nth 0 r_4.2.1)).bind fun t72 =>
 (dBin tab .gtr ty3 t72 (.int .i64 0)).bind fun t73 =>
 (some t73).bind fun t74 =>
 (gd t74 true (some t5_1)).bind fun t75 =>
 (gd t74 true (some (nth 0 r_4.2.1))).bind fun t76 =>
 (gd t74 true (dBin tab .sub ty3 t76 (.int .i64 1))).bind fun t77 =>
 (gd t74 true (dIndexAddr tab ty29 t75 t77)).bind fun t78 =>
 (gd t74 true (dFieldAddr tab ty109 0 t78)).bind fun t79 =>
 (gd t74 true (dLoad tab p907.2 ty9 t79)).bind fun t80 =>
 (gd t74 true (some t0)).bind fun t81 =>
 (gd t74 true (some (nth 3 ds_1))).bind fun t82 =>
 (gd t74 true (dIndexAddr tab ty29 t81 t82)).bind fun t83 =>
 (gd t74 true (dFieldAddr tab ty109 0 t83)).bind fun t84 =>
 (gd t74 true (dLoad tab p907.2 ty9 t84)).bind fun t85 =>
 (gd t74 true (dBin tab .eql ty9 t80 t85)).bind fun t86 =>
 (dPick t74 t86 (.bool false)).bind fun t87 =>
 dIf t87
   ((some (.nils : D)).bind fun t2_3 =>
 (some (.int .i64 7 : D)).bind fun t3_3 =>
 some (.ret, [t2_3, t3_3, t5_1, (nth 3 ds_1), (nth 0 r_4.2.1), t27, (nth 1 r_4.2.1), t87], p907.2))
   ((some (nth 3 ds_1)).bind fun t28 =>
 (dBin tab .add ty3 t28 (.int .i64 1)).bind fun t29 =>
 (some t29).bind fun t6_1 =>
 some (.nrm, [(nth 0 ds_1), (nth 1 ds_1), t5_1, t6_1, (nth 0 r_4.2.1), t27, (nth 1 r_4.2.1), t87], p907.2))) fun x_1 => toEnd (unblk 3 x_1) ((some (nth 3 ds_1)).bind fun t28_1 =>
 (dBin tab .add ty3 t28_1 (.int .i64 1)).bind fun t29_1 =>
 (some t29_1).bind fun t6_2 =>
 some (.nrm, [(nth 0 ds_1), (nth 1 ds_1), t5_1, t6_2, (nth 0 r_4.2.1), t27, (nth 1 r_4.2.1), (nth 7 ds_1)], r_4.2.2)) fun x_2 => some (x_2, [(nth 0 ds_1), (nth 1 ds_1), t5_1, (nth 3 ds_1), (nth 0 r_4.2.1), t27, (nth 1 r_4.2.1), (nth 7 ds_1)], r_4.2.2))
   (some ((.ext 2), [(nth 0 ds_1), (nth 1 ds_1), (nth 2 ds_1), (nth 3 ds_1), (nth 4 ds_1), t27, (nth 6 ds_1), (nth 7 ds_1)], h_2))
noncomputable def F1015 (t0 : D) (h : Hp) : Option (D × Hp) :=
  (some (.nils : D)).bind fun t2 =>
 (some (.int .i64 0 : D)).bind fun t3 =>
 (some t0).bind fun t8 =>
 (dLenT tab ty29 t8).bind fun t9 =>
 (dBin tab .gtr ty3 t9 (.int .i64 32)).bind fun t10 =>
 dIf t10
   ((some (.nils : D)).bind fun t2_1 =>
 (some (.int .i64 4 : D)).bind fun t3_1 =>
 ((some t2_1).bind fun d => ((some t3_1).bind fun d => (some ([] : List D)).bind fun ds => some (d :: ds)).bind fun ds => some (d :: ds)).bind fun ds => scope h h (mkRes ds))
   ((some (.int .i64 0 : D)).bind fun t4 =>
 ((loopW (F1015_L0 t0) [t2, t3, t4, .any, .any] h).bind fun r =>
 some ((unblk 0 r.1), [(nth 0 r.2.1), (nth 1 r.2.1), (nth 2 r.2.1), (nth 3 r.2.1), (nth 4 r.2.1)], r.2.2)).bind fun r_1 =>
 toEnd r_1.1 ((some (.nils : D)).bind fun t5 =>
 (some (.int .i64 0 : D)).bind fun t6 =>
 ((loopW (F1015_L1 t0) [(nth 0 r_1.2.1), (nth 1 r_1.2.1), t5, t6, .any, .any, .any, .any] r_1.2.2).bind fun r_2 =>
 some ((unblk 2 r_2.1), [(nth 0 r_2.2.1), (nth 1 r_2.2.1), (nth 2 r_2.2.1), (nth 3 r_2.2.1), (nth 4 r_2.2.1), (nth 5 r_2.2.1), (nth 6 r_2.2.1), (nth 7 r_2.2.1)], r_2.2.2)).bind fun r_5 =>
 toEnd r_5.1 ((some (nth 2 r_5.2.1)).bind fun t88 =>
 (some t88).bind fun t2_4 =>
 (some (.int .i64 0 : D)).bind fun t3_4 =>
 ((some t2_4).bind fun d => ((some t3_4).bind fun d => (some ([] : List D)).bind fun ds => some (d :: ds)).bind fun ds => some (d :: ds)).bind fun ds => scope h r_5.2.2 (mkRes ds)) fun x_3 => exEnd x_3 (((some (nth 0 r_5.2.1)).bind fun d => ((some (nth 1 r_5.2.1)).bind fun d => (some ([] : List D)).bind fun ds => some (d :: ds)).bind fun ds => some (d :: ds)).bind fun ds => scope h r_5.2.2 (mkRes ds))) fun x => exEnd x (((some (nth 0 r_1.2.1)).bind fun d => ((some (nth 1 r_1.2.1)).bind fun d => (some ([] : List D)).bind fun ds => some (d :: ds)).bind fun ds => some (d :: ds)).bind fun ds => scope h r_1.2.2 (mkRes ds)))
theorem e1015 (t0 : D) (h : Hp) : R fn1015 [t0] h = F1015 t0 h :=
  (run_fn (X := X) (F := Fs) (fi := i67) (by kernel_rfl) _ _).trans (by kernel_rfl)
noncomputable def F95_L0 (t0 : D) (t1 : D) (ds : List D) (h_1 : Hp) : Option Out :=
 (some (nth 1 ds)).bind fun t11 =>
 (some t0).bind fun t12 =>
 (dLenT tab ty29 t12).bind fun t13 =>
 (dBin tab .lss ty3 t11 t13).bind fun t14 =>
 dIf t14
   ((some t0).bind fun t17 =>
 (some (nth 1 ds)).bind fun t18 =>
 (dIndexAddr tab ty29 t17 t18).bind fun t19 =>
 (dLoad tab h_1 ty109 t19).bind fun t20 =>
 (some t1).bind fun t21 =>
 (some (nth 1 ds)).bind fun t22 =>
 (dIndexAddr tab ty29 t21 t22).bind fun t23 =>
 (dLoad tab h_1 ty109 t23).bind fun t24 =>
 (dBin tab .neq ty109 t20 t24).bind fun t25 =>
 dIf t25
   ((some (.bool false : D)).bind fun t4_2 =>
 some (.ret, [t4_2, (nth 1 ds), t14, t25], h_1))
   ((some (nth 1 ds)).bind fun t15 =>
 (dBin tab .add ty3 t15 (.int .i64 1)).bind fun t16 =>
 (some t16).bind fun t5_1 =>
 some (.nrm, [(nth 0 ds), t5_1, t14, t25], h_1)))
   (some ((.ext 0), [(nth 0 ds), (nth 1 ds), t14, (nth 3 ds)], h_1))
noncomputable def F95 (t0 : D) (t1 : D) (h : Hp) : Option (D × Hp) :=
  (some (.bool false : D)).bind fun t4 =>
 (some t0).bind fun t6 =>
 (dLenT tab ty29 t6).bind fun t7 =>
 (some t1).bind fun t8 =>
 (dLenT tab ty29 t8).bind fun t9 =>
 (dBin tab .neq ty3 t7 t9).bind fun t10 =>
 dIf t10
   ((some (.bool false : D)).bind fun t4_1 =>
 ((some t4_1).bind fun d => (some ([] : List D)).bind fun ds => some (d :: ds)).bind fun ds => some (mkRes ds, h))
   ((some (.int .i64 0 : D)).bind fun t5 =>
 ((loopW (F95_L0 t0 t1) [t4, t5, .any, .any] h).bind fun r =>
 some ((unblk 0 r.1), [(nth 0 r.2.1), (nth 1 r.2.1), (nth 2 r.2.1), (nth 3 r.2.1)], r.2.2)).bind fun r_1 =>
 toEnd r_1.1 ((some (.bool true : D)).bind fun t4_3 =>
 ((some t4_3).bind fun d => (some ([] : List D)).bind fun ds => some (d :: ds)).bind fun ds => some (mkRes ds, r_1.2.2)) fun x => exEnd x (((some (nth 0 r_1.2.1)).bind fun d => (some ([] : List D)).bind fun ds => some (d :: ds)).bind fun ds => some (mkRes ds, r_1.2.2)))
theorem e95 (t0 : D) (t1 : D) (h : Hp) : R fn95 [t0, t1] h = F95 t0 t1 h :=
  (run_fn (X := X) (F := Fs) (fi := i68) (by kernel_rfl) _ _).trans (by kernel_rfl)
noncomputable def F59 (t0 : D) (t1 : D) (t2 : D) (t3 : D) (h : Hp) : Option (D × Hp) :=
  (some (.nils : D)).bind fun t8 =>
 (some t0).bind fun t11 =>
 (R fn79 [t11] h).bind fun p12 =>
 (some p12.1).bind fun t0_1 =>
 (some t3).bind fun t13 =>
 (dBin tab .lss ty3 t13 (.int .i64 1)).bind fun t14 =>
 dIf t14
   ((some t0_1).bind fun t15 =>
 (some t15).bind fun t8_1 =>
 ((some t8_1).bind fun d => (some ([] : List D)).bind fun ds => some (d :: ds)).bind fun ds => scope h p12.2 (mkRes ds))
   ((some t0_1).bind fun t17 =>
 (some t1).bind fun t18 =>
 (some t2).bind fun t19 =>
 (R fn80 [t17, t18, t19] p12.2).bind fun p20 =>
 (some p20.1).bind fun t16 =>
 (dExtract 0 t16).bind fun t21 =>
 (dExtract 1 t16).bind fun t22 =>
 (some t21).bind fun t9 =>
 (some t22).bind fun t10 =>
 (some t10).bind fun t23 =>
 (dUn .not t23).bind fun t24 =>
 (dIf t24
   ((some t0_1).bind fun t25 =>
 (some t9).bind fun t26 =>
 (some t1).bind fun t27 =>
 (some t2).bind fun t28 =>
 (dBuild tab ty106 [0, 1] [t27, t28]).bind fun t29 =>
 (pLitF tab ty58 1 [0] [t29]).bind fun t30 =>
 (R fn81 [t25, t26, t30] p20.2).bind fun p31 =>
 (some p31.1).bind fun t0_2 =>
 some (.nrm, [t0_2], p31.2))
   (some (.nrm, [t0_1], p20.2))).bind fun r =>
 toEnd r.1 ((some (nth 0 r.2.1)).bind fun t32 =>
 (some t9).bind fun t33 =>
 (dIndexAddr tab ty58 t32 t33).bind fun t34 =>
 (dFieldAddr tab ty106 2 t34).bind fun t35 =>
 (dLoad tab r.2.2 ty3 t35).bind fun t36 =>
 (some t3).bind fun t37 =>
 (dBin tab .add ty3 t36 t37).bind fun t38 =>
 (dIndexAddr tab ty58 t32 t33).bind fun t39 =>
 (dFieldAddr tab ty106 2 t39).bind fun t40 =>
 ((dStore tab r.2.2 ty3 t40 t38).bind fun h' => some ((.und : D), h')).bind fun p909 =>
 (some (nth 0 r.2.1)).bind fun t41 =>
 (some t41).bind fun t8_2 =>
 ((some t8_2).bind fun d => (some ([] : List D)).bind fun ds => some (d :: ds)).bind fun ds => scope h p909.2 (mkRes ds)) fun x => exEnd x (((some t8).bind fun d => (some ([] : List D)).bind fun ds => some (d :: ds)).bind fun ds => scope h r.2.2 (mkRes ds)))
theorem e59 (t0 : D) (t1 : D) (t2 : D) (t3 : D) (h : Hp) : R fn59 [t0, t1, t2, t3] h = F59 t0 t1 t2 t3 h :=
  (run_fn (X := X) (F := Fs) (fi := i69) (by kernel_rfl) _ _).trans (by kernel_rfl)
noncomputable def F1007 (t0 : D) (t1 : D) (h : Hp) : Option (D × Hp) :=
  (pBoxF t0).bind fun t2 =>
 (some (.bool false : D)).bind fun t3 =>
 (dFieldAddr tab ty78 0 t2).bind fun t4 =>
 (dLoad tab h ty3 t4).bind fun t5 =>
 (dLoad tab h ty3 t1).bind fun t6 =>
 (dBin tab .eql ty3 t5 t6).bind fun t7 =>
 (some t7).bind fun t3_1 =>
 ((some t3_1).bind fun d => (some ([] : List D)).bind fun ds => some (d :: ds)).bind fun ds => some (mkRes ds, h)
theorem e1007 (t0 : D) (t1 : D) (h : Hp) : R fn1007 [t0, t1] h = F1007 t0 t1 h :=
  (run_fn (X := X) (F := Fs) (fi := i70) (by kernel_rfl) _ _).trans (by kernel_rfl)
noncomputable def F94_L0 (t0 : D) (t1 : D) (ds : List D) (h_1 : Hp) : Option Out :=
 (some (nth 1 ds)).bind fun t11 =>
 (some t0).bind fun t12 =>
 (dLenT tab ty28 t12).bind fun t13 =>
 (dBin tab .lss ty3 t11 t13).bind fun t14 =>
 dIf t14
   ((some t0).bind fun t17 =>
 (some (nth 1 ds)).bind fun t18 =>
 (dIndexAddr tab ty28 t17 t18).bind fun t19 =>
 (dLoad tab h_1 ty78 t19).bind fun t20 =>
 (some t1).bind fun t21 =>
 (some (nth 1 ds)).bind fun t22 =>
 (dIndexAddr tab ty28 t21 t22).bind fun t23 =>
 (dLoad tab h_1 ty78 t23).bind fun t24 =>
 (dBin tab .neq ty78 t20 t24).bind fun t25 =>
 dIf t25
   ((some (.bool false : D)).bind fun t4_2 =>
 some (.ret, [t4_2, (nth 1 ds), t14, t25], h_1))
   ((some (nth 1 ds)).bind fun t15 =>
 (dBin tab .add ty3 t15 (.int .i64 1)).bind fun t16 =>
 (some t16).bind fun t5_1 =>
 some (.nrm, [(nth 0 ds), t5_1, t14, t25], h_1)))
   (some ((.ext 0), [(nth 0 ds), (nth 1 ds), t14, (nth 3 ds)], h_1))
noncomputable def F94 (t0 : D) (t1 : D) (h : Hp) : Option (D × Hp) :=
  (some (.bool false : D)).bind fun t4 =>
 (some t0).bind fun t6 =>
 (dLenT tab ty28 t6).bind fun t7 =>
 (some t1).bind fun t8 =>
 (dLenT tab ty28 t8).bind fun t9 =>
 (dBin tab .neq ty3 t7 t9).bind fun t10 =>
 dIf t10
   ((some (.bool false : D)).bind fun t4_1 =>
 ((some t4_1).bind fun d => (some ([] : List D)).bind fun ds => some (d :: ds)).bind fun ds => some (mkRes ds, h))
   ((some (.int .i64 0 : D)).bind fun t5 =>
 ((loopW (F94_L0 t0 t1) [t4, t5, .any, .any] h).bind fun r =>
 some ((unblk 0 r.1), [(nth 0 r.2.1), (nth 1 r.2.1), (nth 2 r.2.1), (nth 3 r.2.1)], r.2.2)).bind fun r_1 =>
 toEnd r_1.1 ((some (.bool true : D)).bind fun t4_3 =>
 ((some t4_3).bind fun d => (some ([] : List D)).bind fun ds => some (d :: ds)).bind fun ds => some (mkRes ds, r_1.2.2)) fun x => exEnd x (((some (nth 0 r_1.2.1)).bind fun d => (some ([] : List D)).bind fun ds => some (d :: ds)).bind fun ds => some (mkRes ds, r_1.2.2)))
theorem e94 (t0 : D) (t1 : D) (h : Hp) : R fn94 [t0, t1] h = F94 t0 t1 h :=
  (run_fn (X := X) (F := Fs) (fi := i73) (by kernel_rfl) _ _).trans (by kernel_rfl)
noncomputable def F99 (t0 : D) (h : Hp) : Option (D × Hp) :=
  (some (.bool false : D)).bind fun t2 =>
 (some t0).bind fun t3 =>
 (some t0).bind fun t4 =>
 (dBin tab .neq ty3 t3 t4).bind fun t5 =>
 (some t5).bind fun t2_1 =>
 ((some t2_1).bind fun d => (some ([] : List D)).bind fun ds => some (d :: ds)).bind fun ds => some (mkRes ds, h)
theorem e99 (t0 : D) (h : Hp) : R fn99 [t0] h = F99 t0 h :=
  (run_fn (X := X) (F := Fs) (fi := i74) (by kernel_rfl) _ _).trans (by kernel_rfl)
noncomputable def F1056_L0 (p24 : D × Hp) (t25 : D) (ds : List D) (h_1 : Hp) : Option Out :=
 (dBin tab .lss ty3 (nth 2 ds) t25).bind fun t27 =>
 dIf t27
   ((dIndexAddr tab ty22 p24.1 (nth 2 ds)).bind fun t28 =>
 (dLoad tab h_1 ty5 t28).bind fun t29 =>
 (some t29).bind fun t4 =>
 (some t4).bind fun t30 =>
 (R fn1062 [t30] h_1).bind fun p31 =>
 (dUn .not p31.1).bind fun t32 =>
 (some t32).bind fun t33 =>
 (gd t33 true (some t4)).bind fun t34 =>
 (gd t33 true (dBin tab .neq ty5 t34 (.int .u8 46))).bind fun t35 =>
 (dPick t33 t35 (.bool false)).bind fun t36 =>
 dIf t36
   ((some (.bool false : D)).bind fun t2_2 =>
 some (.ret, [t2_2, t4, (nth 2 ds), t27, t36], p31.2))
   ((dBin tab .add ty3 (nth 2 ds) (.int .i64 1)).bind fun t37 =>
 (some t37).bind fun t26_1 =>
 some (.nrm, [(nth 0 ds), t4, t26_1, t27, t36], p31.2)))
   (some ((.ext 0), [(nth 0 ds), (nth 1 ds), (nth 2 ds), t27, (nth 4 ds)], h_1))
noncomputable def F1056 (t0 : D) (h : Hp) : Option (D × Hp) :=
  (some (.bool false : D)).bind fun t2 =>
 (some t0).bind fun t5 =>
 (dBin tab .eql ty9 t5 (.str [])).bind fun t6 =>
 (some t6).bind fun t7 =>
 (gd t7 false (some t0)).bind fun t8 =>
 (gd t7 false (dLenT tab ty9 t8)).bind fun t9 =>
 (gd t7 false (dBin tab .gtr ty3 t9 (.int .i64 32))).bind fun t10 =>
 (dPick t7 (.bool true) t10).bind fun t11 =>
 (some t11).bind fun t12 =>
 (gd t12 false (some t0)).bind fun t13 =>
 (gd t12 false (dIndex tab ty9 t13 (.int .i64 0))).bind fun t14 =>
 (gdW t12 false h (R fn1061 [t14] h)).bind fun p15 =>
 (gd t12 false (dUn .not p15.1)).bind fun t16 =>
 (gd t12 false (some t16)).bind fun t17 =>
 (gd t17 true (some t0)).bind fun t18 =>
 (gd t17 true (dIndex tab ty9 t18 (.int .i64 0))).bind fun t19 =>
 (gd t17 true (dBin tab .neq ty5 t19 (.int .u8 95))).bind fun t20 =>
 (gd t12 false (dPick t17 t20 (.bool false))).bind fun t21 =>
 (dPick t12 (.bool true) t21).bind fun t22 =>
 dIf t22
   ((some (.bool false : D)).bind fun t2_1 =>
 ((some t2_1).bind fun d => (some ([] : List D)).bind fun ds => some (d :: ds)).bind fun ds => scope h p15.2 (mkRes ds))
   ((some t0).bind fun t23 =>
 (wBytes ty5 p15.2 t23).bind fun p24 =>
 (dLenT tab ty22 p24.1).bind fun t25 =>
 (some (.int .i64 0 : D)).bind fun t26 =>
 ((loopW (F1056_L0 p24 t25) [t2, .any, t26, .any, .any] p24.2).bind fun r =>
 some ((unblk 0 r.1), [(nth 0 r.2.1), (nth 1 r.2.1), (nth 2 r.2.1), (nth 3 r.2.1), (nth 4 r.2.1)], r.2.2)).bind fun r_1 =>
 toEnd r_1.1 ((some (.bool true : D)).bind fun t2_3 =>
 ((some t2_3).bind fun d => (some ([] : List D)).bind fun ds => some (d :: ds)).bind fun ds => scope h r_1.2.2 (mkRes ds)) fun x => exEnd x (((some (nth 0 r_1.2.1)).bind fun d => (some ([] : List D)).bind fun ds => some (d :: ds)).bind fun ds => scope h r_1.2.2 (mkRes ds)))
theorem e1056 (t0 : D) (h : Hp) : R fn1056 [t0] h = F1056 t0 h :=
  (run_fn (X := X) (F := Fs) (fi := i75) (by kernel_rfl) _ _).trans (by kernel_rfl)
noncomputable def F1057 (t0 : D) (t1 : D) (h : Hp) : Option (D × Hp) :=
  (some t0).bind fun t4 =>
 (some t0).bind fun t5 =>
 (dLenT tab ty29 t5).bind fun t6 =>
 (some t1).bind fun t7 =>
 (R fn1063 [t4, t6, t7] h).bind fun p8 =>
 (some ([] : List D)).bind fun ds => some (mkRes ds, p8.2)
theorem e1057 (t0 : D) (t1 : D) (h : Hp) : R fn1057 [t0, t1] h = F1057 t0 t1 h :=
  (run_fn (X := X) (F := Fs) (fi := i76) (by kernel_rfl) _ _).trans (by kernel_rfl)
noncomputable def F1058 (t0 : D) (t1 : D) (h : Hp) : Option (D × Hp) :=
  (pBoxF t0).bind fun t2 =>
 (pBoxF t1).bind fun t3 =>
 (some (.int .i64 0 : D)).bind fun t4 =>
 (dFieldAddr tab ty109 0 t2).bind fun t5 =>
 (dLoad tab h ty9 t5).bind fun t6 =>
 (dFieldAddr tab ty109 0 t3).bind fun t7 =>
 (dLoad tab h ty9 t7).bind fun t8 =>
 (R fn1059 [t6, t8] h).bind fun p9 =>
 (some p9.1).bind fun t4_1 =>
 ((some t4_1).bind fun d => (some ([] : List D)).bind fun ds => some (d :: ds)).bind fun ds => some (mkRes ds, p9.2)
theorem e1058 (t0 : D) (t1 : D) (h : Hp) : R fn1058 [t0, t1] h = F1058 t0 t1 h :=
  (run_fn (X := X) (F := Fs) (fi := i77) (by kernel_rfl) _ _).trans (by kernel_rfl)
noncomputable def F1059 (t0 : D) (t1 : D) (h : Hp) : Option (D × Hp) :=
  (some (.int .i64 0 : D)).bind fun t4 =>
 (some t0).bind fun t5 =>
 (some t1).bind fun t6 =>
 (R fn1064 [t5, t6] h).bind fun p7 =>
 (some p7.1).bind fun t4_1 =>
 ((some t4_1).bind fun d => (some ([] : List D)).bind fun ds => some (d :: ds)).bind fun ds => some (mkRes ds, p7.2)
theorem e1059 (t0 : D) (t1 : D) (h : Hp) : R fn1059 [t0, t1] h = F1059 t0 t1 h :=
  (run_fn (X := X) (F := Fs) (fi := i78) (by kernel_rfl) _ _).trans (by kernel_rfl)
noncomputable def F1060_L0 (t0 : D) (t1 : D) (t7 : D) (ds : List D) (h_1 : Hp) : Option Out :=
 (dBin tab .lss ty3 (nth 2 ds) t7).bind fun t9 =>
 dIf t9
   ((some (nth 2 ds)).bind fun t10 =>
 (some t10).bind fun t5 =>
 (some t1).bind fun t11 =>
 (some t0).bind fun t12 =>
 (some t5).bind fun t13 =>
 (dIndexAddr tab ty29 t12 t13).bind fun t14 =>
 (dLoad tab h_1 ty109 t14).bind fun t15 =>
 (callV R t11 [t15] h_1).bind fun p16 =>
 dIf p16.1
   ((some t5).bind fun t17 =>
 (some t17).bind fun t4_1 =>
 some (.ret, [t4_1, t5, (nth 2 ds), t9, p16.1], p16.2))
   ((dBin tab .add ty3 (nth 2 ds) (.int .i64 1)).bind fun t18 =>
 (some t18).bind fun t8_1 =>
 some (.nrm, [(nth 0 ds), t5, t8_1, t9, p16.1], p16.2)))
   (some ((.ext 0), [(nth 0 ds), (nth 1 ds), (nth 2 ds), t9, (nth 4 ds)], h_1))
noncomputable def F1060 (t0 : D) (t1 : D) (h : Hp) : Option (D × Hp) :=
  (some (.int .i64 0 : D)).bind fun t4 =>
 (some t0).bind fun t6 =>
 (dLenT tab ty29 t6).bind fun t7 =>
 (some (.int .i64 0 : D)).bind fun t8 =>
 ((loopW (F1060_L0 t0 t1 t7) [t4, .any, t8, .any, .any] h).bind fun r =>
 some ((unblk 0 r.1), [(nth 0 r.2.1), (nth 1 r.2.1), (nth 2 r.2.1), (nth 3 r.2.1), (nth 4 r.2.1)], r.2.2)).bind fun r_1 =>
 toEnd r_1.1 ((some (.int .i64 (-1) : D)).bind fun t4_2 =>
 ((some t4_2).bind fun d => (some ([] : List D)).bind fun ds => some (d :: ds)).bind fun ds => some (mkRes ds, r_1.2.2)) fun x => exEnd x (((some (nth 0 r_1.2.1)).bind fun d => (some ([] : List D)).bind fun ds => some (d :: ds)).bind fun ds => some (mkRes ds, r_1.2.2))
theorem e1060 (t0 : D) (t1 : D) (h : Hp) : R fn1060 [t0, t1] h = F1060 t0 t1 h :=
  (run_fn (X := X) (F := Fs) (fi := i79) (by kernel_rfl) _ _).trans (by kernel_rfl)
noncomputable def F1018_L0 (t0 : D) (ds : List D) (h_1 : Hp) : Option Out :=
 (some (nth 1 ds)).bind fun t23 =>
 (some t0).bind fun t24 =>
 (dLenT tab ty9 t24).bind fun t25 =>
 (dBin tab .lss ty3 t23 t25).bind fun t26 =>
 dIf t26
   ((some t0).bind fun t29 =>
 (some (nth 1 ds)).bind fun t30 =>
 (dIndex tab ty9 t29 t30).bind fun t31 =>
 (R fn1020 [t31] h_1).bind fun p32 =>
 (dUn .not p32.1).bind fun t33 =>
 (some t33).bind fun t34 =>
 (gd t34 true (some t0)).bind fun t35 =>
 (gd t34 true (some (nth 1 ds))).bind fun t36 =>
 (gd t34 true (dIndex tab ty9 t35 t36)).bind fun t37 =>
 (gd t34 true (dBin tab .neq ty5 t37 (.int .u8 46))).bind fun t38 =>
 (dPick t34 t38 (.bool false)).bind fun t39 =>
 dIf t39
   ((some (.bool false : D)).bind fun t2_2 =>
 some (.ret, [t2_2, (nth 1 ds), t26, t39], p32.2))
   ((some (nth 1 ds)).bind fun t27 =>
 (dBin tab .add ty3 t27 (.int .i64 1)).bind fun t28 =>
 (some t28).bind fun t3_1 =>
 some (.nrm, [(nth 0 ds), t3_1, t26, t39], p32.2)))
   (some ((.ext 0), [(nth 0 ds), (nth 1 ds), t26, (nth 3 ds)], h_1))
noncomputable def F1018 (t0 : D) (h : Hp) : Option (D × Hp) :=
  (some (.bool false : D)).bind fun t2 =>
 (some t0).bind fun t4 =>
 (dLenT tab ty9 t4).bind fun t5 =>
 (dBin tab .lss ty3 t5 (.int .i64 1)).bind fun t6 =>
 (some t6).bind fun t7 =>
 (gd t7 false (some t0)).bind fun t8 =>
 (gd t7 false (dLenT tab ty9 t8)).bind fun t9 =>
 (gd t7 false (dBin tab .gtr ty3 t9 (.int .i64 32))).bind fun t10 =>
 (dPick t7 (.bool true) t10).bind fun t11 =>
 (some t11).bind fun t12 =>
 (gd t12 false (some t0)).bind fun t13 =>
 (gd t12 false (dIndex tab ty9 t13 (.int .i64 0))).bind fun t14 =>
 (gdW t12 false h (R fn1019 [t14] h)).bind fun p15 =>
 (gd t12 false (dUn .not p15.1)).bind fun t16 =>
 (gd t12 false (some t16)).bind fun t17 =>
 (gd t17 true (some t0)).bind fun t18 =>
 (gd t17 true (dIndex tab ty9 t18 (.int .i64 0))).bind fun t19 =>
 (gd t17 true (dBin tab .neq ty5 t19 (.int .u8 95))).bind fun t20 =>
 (gd t12 false (dPick t17 t20 (.bool false))).bind fun t21 =>
 (dPick t12 (.bool true) t21).bind fun t22 =>
 dIf t22
   ((some (.bool false : D)).bind fun t2_1 =>
 ((some t2_1).bind fun d => (some ([] : List D)).bind fun ds => some (d :: ds)).bind fun ds => some (mkRes ds, p15.2))
   ((some (.int .i64 0 : D)).bind fun t3 =>
 ((loopW (F1018_L0 t0) [t2, t3, .any, .any] p15.2).bind fun r =>
 some ((unblk 0 r.1), [(nth 0 r.2.1), (nth 1 r.2.1), (nth 2 r.2.1), (nth 3 r.2.1)], r.2.2)).bind fun r_1 =>
 toEnd r_1.1 ((some (.bool true : D)).bind fun t2_3 =>
 ((some t2_3).bind fun d => (some ([] : List D)).bind fun ds => some (d :: ds)).bind fun ds => some (mkRes ds, r_1.2.2)) fun x => exEnd x (((some (nth 0 r_1.2.1)).bind fun d => (some ([] : List D)).bind fun ds => some (d :: ds)).bind fun ds => some (mkRes ds, r_1.2.2)))
theorem e1018 (t0 : D) (h : Hp) : R fn1018 [t0] h = F1018 t0 h :=
  (run_fn (X := X) (F := Fs) (fi := i80) (by kernel_rfl) _ _).trans (by kernel_rfl)
noncomputable def F80 (t0 : D) (t1 : D) (t2 : D) (h : Hp) : Option (D × Hp) :=
  (some (.int .i64 0 : D)).bind fun t6 =>
 (some (.bool false : D)).bind fun t7 =>
 (some t0).bind fun t8 =>
 (some t1).bind fun t9 =>
 (some t2).bind fun t10 =>
 (dBuild tab ty106 [0, 1] [t9, t10]).bind fun t11 =>
 (R fn87 [t8, t11, .fn (.func fn88) [] []] h).bind fun p12 =>
 (dExtract 0 p12.1).bind fun t13 =>
 (dExtract 1 p12.1).bind fun t14 =>
 (some t13).bind fun t6_1 =>
 (some t14).bind fun t7_1 =>
 ((some t6_1).bind fun d => ((some t7_1).bind fun d => (some ([] : List D)).bind fun ds => some (d :: ds)).bind fun ds => some (d :: ds)).bind fun ds => some (mkRes ds, p12.2)
theorem e80 (t0 : D) (t1 : D) (t2 : D) (h : Hp) : R fn80 [t0, t1, t2] h = F80 t0 t1 t2 h :=
  (run_fn (X := X) (F := Fs) (fi := i81) (by kernel_rfl) _ _).trans (by kernel_rfl)
noncomputable def F1061 (t0 : D) (h : Hp) : Option (D × Hp) :=
  (some (.bool false : D)).bind fun t2 =>
 (some t0).bind fun t3 =>
 (dIndexAddr tab ty1044 (.fptr kin) t3).bind fun t4 =>
 (dLoad tab h ty5 t4).bind fun t5 =>
 (dBin tab .and ty5 t5 (.int .u8 2)).bind fun t6 =>
 (dBin tab .neq ty5 t6 (.int .u8 0)).bind fun t7 =>
 (some t7).bind fun t2_1 =>
 ((some t2_1).bind fun d => (some ([] : List D)).bind fun ds => some (d :: ds)).bind fun ds => some (mkRes ds, h)
theorem e1061 (t0 : D) (h : Hp) : R fn1061 [t0] h = F1061 t0 h :=
  (run_fn (X := X) (F := Fs) (fi := i84) (by kernel_rfl) _ _).trans (by kernel_rfl)
noncomputable def F1062 (t0 : D) (h : Hp) : Option (D × Hp) :=
  (some (.bool false : D)).bind fun t2 =>
 (some t0).bind fun t3 =>
 (dIndexAddr tab ty1044 (.fptr kin) t3).bind fun t4 =>
 (dLoad tab h ty5 t4).bind fun t5 =>
 (dBin tab .and ty5 t5 (.int .u8 3)).bind fun t6 =>
 (dBin tab .neq ty5 t6 (.int .u8 0)).bind fun t7 =>
 (some t7).bind fun t8 =>
 (gd t8 false (some t0)).bind fun t9 =>
 (gd t8 false (dBin tab .eql ty5 t9 (.int .u8 95))).bind fun t10 =>
 (dPick t8 (.bool true) t10).bind fun t11 =>
 (some t11).bind fun t2_1 =>
 ((some t2_1).bind fun d => (some ([] : List D)).bind fun ds => some (d :: ds)).bind fun ds => some (mkRes ds, h)
theorem e1062 (t0 : D) (h : Hp) : R fn1062 [t0] h = F1062 t0 h :=
  (run_fn (X := X) (F := Fs) (fi := i85) (by kernel_rfl) _ _).trans (by kernel_rfl)
noncomputable def F1063_L0 (t0 : D) (t1 : D) (t2 : D) (t6 : D) (ds : List D) (h_1 : Hp) : Option Out :=
 (some (nth 1 ds)).bind fun t11 =>
 (some t1).bind fun t12 =>
 (dBin tab .leq ty3 t11 t12).bind fun t13 =>
 dIf t13
   ((some t0).bind fun t14 =>
 (some (nth 0 ds)).bind fun t15 =>
 (some (nth 1 ds)).bind fun t16 =>
 (some t2).bind fun t17 =>
 (R fn1065 [t14, t15, t16, t17] h_1).bind fun p18 =>
 (some (nth 1 ds)).bind fun t19 =>
 (some t19).bind fun t7_1 =>
 (some (nth 1 ds)).bind fun t20 =>
 (some t6).bind fun t21 =>
 (dBin tab .add ty3 t20 t21).bind fun t22 =>
 (some t22).bind fun t8_1 =>
 some (.nrm, [t7_1, t8_1, t13], p18.2))
   (some ((.ext 0), [(nth 0 ds), (nth 1 ds), t13], h_1))
noncomputable def F1063_L2 (t0 : D) (t1 : D) (t2 : D) (ds_1 : List D) (ds_2 : List D) (h_3 : Hp) : Option Out :=
 (some (nth 1 ds_2)).bind fun t33 =>
 (some t1).bind fun t34 =>
 (dBin tab .leq ty3 t33 t34).bind fun t35 =>
 dIf t35
   ((some t0).bind fun t36 =>
 (some (nth 0 ds_2)).bind fun t37 =>
 (some (nth 0 ds_2)).bind fun t38 =>
 (some (nth 0 ds_1)).bind fun t39 =>
 (dBin tab .add ty3 t38 t39).bind fun t40 =>
 (some (nth 1 ds_2)).bind fun t41 =>
 (some t2).bind fun t42 =>
 (R fn1066 [t36, t37, t40, t41, t42] h_3).bind fun p43 =>
 (some (nth 1 ds_2)).bind fun t44 =>
 (some t44).bind fun t7_3 =>
 (some (nth 1 ds_2)).bind fun t45 =>
 (some (nth 0 ds_1)).bind fun t46 =>
 (dBin tab .mul ty3 (.int .i64 2) t46).bind fun t47 =>
 (dBin tab .add ty3 t45 t47).bind fun t48 =>
 (some t48).bind fun t8_3 =>
 some (.nrm, [t7_3, t8_3, t35], p43.2))
   (some ((.ext 4), [(nth 0 ds_2), (nth 1 ds_2), t35], h_3))
noncomputable def F1063_L1 (t0 : D) (t1 : D) (t2 : D) (ds_1 : List D) (h_2 : Hp) : Option Out :=
 (some (nth 0 ds_1)).bind fun t28 =>
 (some t1).bind fun t29 =>
 (dBin tab .lss ty3 t28 t29).bind fun t30 =>
 dIf t30
   ((some (nth 0 ds_1)).bind fun t31 =>
 (dBin tab .mul ty3 (.int .i64 2) t31).bind fun t32 =>
 (some (.int .i64 0 : D)).bind fun t7_2 =>
 (some t32).bind fun t8_2 =>
 ((loopW (F1063_L2 t0 t1 t2 ds_1) [t7_2, t8_2, (nth 5 ds_1)] h_2).bind fun r_3 =>
 some ((unblk 4 r_3.1), [(nth 0 r_3.2.1), (nth 1 r_3.2.1), (nth 2 r_3.2.1)], r_3.2.2)).bind fun r_4 =>
 toEnd r_4.1 ((some (nth 0 r_4.2.1)).bind fun t49 =>
 (some (nth 0 ds_1)).bind fun t50 =>
 (dBin tab .add ty3 t49 t50).bind fun t51 =>
 (some t51).bind fun t9 =>
 (some t9).bind fun t52 =>
 (some t1).bind fun t53 =>
 (dBin tab .lss ty3 t52 t53).bind fun t54 =>
 (dIf t54
   ((some t0).bind fun t55 =>
 (some (nth 0 r_4.2.1)).bind fun t56 =>
 (some t9).bind fun t57 =>
 (some t1).bind fun t58 =>
 (some t2).bind fun t59 =>
 (R fn1066 [t55, t56, t57, t58, t59] r_4.2.2).bind fun p60 =>
 some (.nrm, ([] : List D), p60.2))
   (some (.nrm, ([] : List D), r_4.2.2))).bind fun r_5 =>
 toEnd r_5.1 ((some (nth 0 ds_1)).bind fun t61 =>
 (dBin tab .mul ty3 t61 (.int .i64 2)).bind fun t62 =>
 (some t62).bind fun t6_1 =>
 some (.nrm, [t6_1, (nth 0 r_4.2.1), (nth 1 r_4.2.1), t9, t30, (nth 2 r_4.2.1), t54], r_5.2.2)) fun x_2 => some ((unblk 3 x_2), [(nth 0 ds_1), (nth 0 r_4.2.1), (nth 1 r_4.2.1), t9, t30, (nth 2 r_4.2.1), t54], r_5.2.2)) fun x_1 => some ((unblk 3 x_1), [(nth 0 ds_1), (nth 0 r_4.2.1), (nth 1 r_4.2.1), (nth 3 ds_1), t30, (nth 2 r_4.2.1), (nth 6 ds_1)], r_4.2.2))
   (some ((.ext 2), [(nth 0 ds_1), (nth 1 ds_1), (nth 2 ds_1), (nth 3 ds_1), t30, (nth 5 ds_1), (nth 6 ds_1)], h_2))
noncomputable def F1063 (t0 : D) (t1 : D) (t2 : D) (h : Hp) : Option (D × Hp) :=
  (some (.int .i64 20 : D)).bind fun t6 =>
 (some t6).bind fun t10 =>
 (some (.int .i64 0 : D)).bind fun t7 =>
 (some t10).bind fun t8 =>
 ((loopW (F1063_L0 t0 t1 t2 t6) [t7, t8, .any] h).bind fun r =>
 some ((unblk 0 r.1), [(nth 0 r.2.1), (nth 1 r.2.1), (nth 2 r.2.1)], r.2.2)).bind fun r_1 =>
 toEnd r_1.1 ((some t0).bind fun t23 =>
 (some (nth 0 r_1.2.1)).bind fun t24 =>
 (some t1).bind fun t25 =>
 (some t2).bind fun t26 =>
 (R fn1065 [t23, t24, t25, t26] r_1.2.2).bind fun p27 =>
 ((loopW (F1063_L1 t0 t1 t2) [t6, (nth 0 r_1.2.1), (nth 1 r_1.2.1), .any, .any, .any, .any] p27.2).bind fun r_2 =>
 some ((unblk 2 r_2.1), [(nth 0 r_2.2.1), (nth 1 r_2.2.1), (nth 2 r_2.2.1), (nth 3 r_2.2.1), (nth 4 r_2.2.1), (nth 5 r_2.2.1), (nth 6 r_2.2.1)], r_2.2.2)).bind fun r_6 =>
 exEnd r_6.1 ((some ([] : List D)).bind fun ds => some (mkRes ds, r_6.2.2))) fun x => exEnd x ((some ([] : List D)).bind fun ds => some (mkRes ds, r_1.2.2))
theorem e1063 (t0 : D) (t1 : D) (t2 : D) (h : Hp) : R fn1063 [t0, t1, t2] h = F1063 t0 t1 t2 h :=
  (run_fn (X := X) (F := Fs) (fi := i86) (by kernel_rfl) _ _).trans (by kernel_rfl)
noncomputable def F1064 (t0 : D) (t1 : D) (h : Hp) : Option (D × Hp) :=
  (some (.int .i64 0 : D)).bind fun t4 =>
 (some t0).bind fun t5 =>
 (some t1).bind fun t6 =>
 (R fn1067 [t5, t6] h).bind fun p7 =>
 (some p7.1).bind fun t4_1 =>
 ((some t4_1).bind fun d => (some ([] : List D)).bind fun ds => some (d :: ds)).bind fun ds => some (mkRes ds, p7.2)
theorem e1064 (t0 : D) (t1 : D) (h : Hp) : R fn1064 [t0, t1] h = F1064 t0 t1 h :=
  (run_fn (X := X) (F := Fs) (fi := i87) (by kernel_rfl) _ _).trans (by kernel_rfl)
noncomputable def F1019 (t0 : D) (h : Hp) : Option (D × Hp) :=
  (some (.bool false : D)).bind fun t2 =>
 (some t0).bind fun t3 =>
 (dBin tab .geq ty5 t3 (.int .u8 97)).bind fun t4 =>
 (some t4).bind fun t5 =>
 (gd t5 true (some t0)).bind fun t6 =>
 (gd t5 true (dBin tab .leq ty5 t6 (.int .u8 122))).bind fun t7 =>
 (dPick t5 t7 (.bool false)).bind fun t8 =>
 (some t8).bind fun t9 =>
 (gd t9 false (some t0)).bind fun t10 =>
 (gd t9 false (dBin tab .geq ty5 t10 (.int .u8 65))).bind fun t11 =>
 (gd t9 false (some t11)).bind fun t12 =>
 (gd t12 true (some t0)).bind fun t13 =>
 (gd t12 true (dBin tab .leq ty5 t13 (.int .u8 90))).bind fun t14 =>
 (gd t9 false (dPick t12 t14 (.bool false))).bind fun t15 =>
 (dPick t9 (.bool true) t15).bind fun t16 =>
 (some t16).bind fun t2_1 =>
 ((some t2_1).bind fun d => (some ([] : List D)).bind fun ds => some (d :: ds)).bind fun ds => some (mkRes ds, h)
theorem e1019 (t0 : D) (h : Hp) : R fn1019 [t0] h = F1019 t0 h :=
  (run_fn (X := X) (F := Fs) (fi := i88) (by kernel_rfl) _ _).trans (by kernel_rfl)
noncomputable def F1020 (t0 : D) (h : Hp) : Option (D × Hp) :=
  (some (.bool false : D)).bind fun t2 =>
 (some t0).bind fun t3 =>
 (R fn1021 [t3] h).bind fun p4 =>
 (some p4.1).bind fun t5 =>
 (gd t5 false (some t0)).bind fun t6 =>
 (gdW t5 false p4.2 (R fn1019 [t6] p4.2)).bind fun p7 =>
 (dPick t5 (.bool true) p7.1).bind fun t8 =>
 (some t8).bind fun t9 =>
 (gd t9 false (some t0)).bind fun t10 =>
 (gd t9 false (dBin tab .eql ty5 t10 (.int .u8 95))).bind fun t11 =>
 (dPick t9 (.bool true) t11).bind fun t12 =>
 (some t12).bind fun t2_1 =>
 ((some t2_1).bind fun d => (some ([] : List D)).bind fun ds => some (d :: ds)).bind fun ds => some (mkRes ds, p7.2)
theorem e1020 (t0 : D) (h : Hp) : R fn1020 [t0] h = F1020 t0 h :=
  (run_fn (X := X) (F := Fs) (fi := i89) (by kernel_rfl) _ _).trans (by kernel_rfl)
noncomputable def F87_L0 (t0 : D) (t2 : D) (t4 : D) (ds : List D) (h_1 : Hp) : Option Out :=
 (some (nth 0 ds)).bind fun t15 =>
 (some (nth 1 ds)).bind fun t16 =>
 (dBin tab .lss ty3 t15 t16).bind fun t17 =>
 dIf t17
   ((some (nth 0 ds)).bind fun t18 =>
 (some (nth 1 ds)).bind fun t19 =>
 (dBin tab .add ty3 t18 t19).bind fun t20 =>
 (dConv tab ty3 ty134 t20).bind fun t21 =>
 (dBin tab .shr ty134 t21 (.int .u64 1)).bind fun t22 =>
 (dConv tab ty134 ty3 t22).bind fun t23 =>
 (some t23).bind fun t11 =>
 (some t2).bind fun t24 =>
 (some t0).bind fun t25 =>
 (some t11).bind fun t26 =>
 (dIndexAddr tab ty58 t25 t26).bind fun t27 =>
 (dLoad tab h_1 ty106 t27).bind fun t28 =>
 (dLoad tab h_1 ty106 t4).bind fun t29 =>
 (callV R t24 [t28, t29] h_1).bind fun p30 =>
 (dBin tab .lss ty3 p30.1 (.int .i64 0)).bind fun t31 =>
 (dIf t31
   ((some t11).bind fun t32 =>
 (dBin tab .add ty3 t32 (.int .i64 1)).bind fun t33 =>
 (some t33).bind fun t9_1 =>
 some (.nrm, [t9_1, (nth 1 ds)], p30.2))
   ((some t11).bind fun t34 =>
 (some t34).bind fun t10_1 =>
 some (.nrm, [(nth 0 ds), t10_1], p30.2))).bind fun r_1 =>
 some ((unblk 1 r_1.1), [(nth 0 r_1.2.1), (nth 1 r_1.2.1), t11, t17, t31], r_1.2.2))
   (some ((.ext 0), [(nth 0 ds), (nth 1 ds), (nth 2 ds), t17, (nth 4 ds)], h_1))
noncomputable def F87 (t0 : D) (t1 : D) (t2 : D) (h : Hp) : Option (D × Hp) :=
  (pBoxF t1).bind fun t4 =>
 (some (.int .i64 0 : D)).bind fun t6 =>
 (some (.bool false : D)).bind fun t7 =>
 (some t0).bind fun t12 =>
 (dLenT tab ty58 t12).bind fun t13 =>
 (some t13).bind fun t8 =>
 (some t8).bind fun t14 =>
 (some (.int .i64 0 : D)).bind fun t9 =>
 (some t14).bind fun t10 =>
 ((loopW (F87_L0 t0 t2 t4) [t9, t10, .any, .any, .any] h).bind fun r =>
 some ((unblk 0 r.1), [(nth 0 r.2.1), (nth 1 r.2.1), (nth 2 r.2.1), (nth 3 r.2.1), (nth 4 r.2.1)], r.2.2)).bind fun r_2 =>
 toEnd r_2.1 ((some (nth 0 r_2.2.1)).bind fun t35 =>
 (some (nth 0 r_2.2.1)).bind fun t36 =>
 (some t8).bind fun t37 =>
 (dBin tab .lss ty3 t36 t37).bind fun t38 =>
 (some t38).bind fun t39 =>
 (gd t39 true (some t2)).bind fun t40 =>
 (gd t39 true (some t0)).bind fun t41 =>
 (gd t39 true (some (nth 0 r_2.2.1))).bind fun t42 =>
 (gd t39 true (dIndexAddr tab ty58 t41 t42)).bind fun t43 =>
 (gd t39 true (dLoad tab r_2.2.2 ty106 t43)).bind fun t44 =>
 (gd t39 true (dLoad tab r_2.2.2 ty106 t4)).bind fun t45 =>
 (gdW t39 true r_2.2.2 (callV R t40 [t44, t45] r_2.2.2)).bind fun p46 =>
 (gd t39 true (dBin tab .eql ty3 p46.1 (.int .i64 0))).bind fun t47 =>
 (dPick t39 t47 (.bool false)).bind fun t48 =>
 (some t35).bind fun t6_1 =>
 (some t48).bind fun t7_1 =>
 ((some t6_1).bind fun d => ((some t7_1).bind fun d => (some ([] : List D)).bind fun ds => some (d :: ds)).bind fun ds => some (d :: ds)).bind fun ds => some (mkRes ds, p46.2)) fun x => exEnd x (((some t6).bind fun d => ((some t7).bind fun d => (some ([] : List D)).bind fun ds => some (d :: ds)).bind fun ds => some (d :: ds)).bind fun ds => some (mkRes ds, r_2.2.2))
theorem e87 (t0 : D) (t1 : D) (t2 : D) (h : Hp) : R fn87 [t0, t1, t2] h = F87 t0 t1 t2 h :=
  (run_fn (X := X) (F := Fs) (fi := i90) (by kernel_rfl) _ _).trans (by kernel_rfl)
noncomputable def F88 (t0 : D) (t1 : D) (h : Hp) : Option (D × Hp) :=
  (pBoxF t0).bind fun t2 =>
 (pBoxF t1).bind fun t3 =>
 (some (.int .i64 0 : D)).bind fun t4 =>
 (dFieldAddr tab ty106 0 t2).bind fun t5 =>
 (dLoad tab h ty3 t5).bind fun t6 =>
 (dFieldAddr tab ty106 0 t3).bind fun t7 =>
 (dLoad tab h ty3 t7).bind fun t8 =>
 (R fn90 [t6, t8] h).bind fun p9 =>
 (dFieldAddr tab ty106 1 t2).bind fun t10 =>
 (dLoad tab p9.2 ty9 t10).bind fun t11 =>
 (dFieldAddr tab ty106 1 t3).bind fun t12 =>
 (dLoad tab p9.2 ty9 t12).bind fun t13 =>
 (R fn91 [t11, t13] p9.2).bind fun p14 =>
 (pLitF tab ty82 2 [0, 1] [p9.1, p14.1]).bind fun t15 =>
 (R fn89 [t15] p14.2).bind fun p16 =>
 chk (dLoad tab h ty9 t10 = some t11)
 (chk (dLoad tab h ty9 t12 = some t13)
 ((some p16.1).bind fun t4_1 =>
 ((some t4_1).bind fun d => (some ([] : List D)).bind fun ds => some (d :: ds)).bind fun ds => some (mkRes ds, p16.2)))
theorem e88 (t0 : D) (t1 : D) (h : Hp) : R fn88 [t0, t1] h = F88 t0 t1 h :=
  (run_fn (X := X) (F := Fs) (fi := i91) (by kernel_rfl) _ _).trans (by kernel_rfl)
noncomputable def F91 (t0 : D) (t1 : D) (h : Hp) : Option (D × Hp) :=
  (some (.int .i64 0 : D)).bind fun t4 =>
 (some t0).bind fun t7 =>
 (R fn100 [t7] h).bind fun p8 =>
 (some p8.1).bind fun t5 =>
 (some t1).bind fun t9 =>
 (R fn100 [t9] p8.2).bind fun p10 =>
 (some p10.1).bind fun t6 =>
 (some t5).bind fun t11 =>
 dIf t11
   ((some t6).bind fun t12 =>
 dIf t12
   ((some (.int .i64 0 : D)).bind fun t4_1 =>
 ((some t4_1).bind fun d => (some ([] : List D)).bind fun ds => some (d :: ds)).bind fun ds => some (mkRes ds, p10.2))
   ((some (.int .i64 (-1) : D)).bind fun t4_2 =>
 ((some t4_2).bind fun d => (some ([] : List D)).bind fun ds => some (d :: ds)).bind fun ds => some (mkRes ds, p10.2)))
   ((some t6).bind fun t13 =>
 dIf t13
   ((some (.int .i64 1 : D)).bind fun t4_3 =>
 ((some t4_3).bind fun d => (some ([] : List D)).bind fun ds => some (d :: ds)).bind fun ds => some (mkRes ds, p10.2))
   ((some t0).bind fun t14 =>
 (some t1).bind fun t15 =>
 (dBin tab .lss ty9 t14 t15).bind fun t16 =>
 dIf t16
   ((some (.int .i64 (-1) : D)).bind fun t4_4 =>
 ((some t4_4).bind fun d => (some ([] : List D)).bind fun ds => some (d :: ds)).bind fun ds => some (mkRes ds, p10.2))
   ((some t0).bind fun t17 =>
 (some t1).bind fun t18 =>
 (dBin tab .gtr ty9 t17 t18).bind fun t19 =>
 dIf t19
   ((some (.int .i64 1 : D)).bind fun t4_5 =>
 ((some t4_5).bind fun d => (some ([] : List D)).bind fun ds => some (d :: ds)).bind fun ds => some (mkRes ds, p10.2))
   ((some (.int .i64 0 : D)).bind fun t4_6 =>
 ((some t4_6).bind fun d => (some ([] : List D)).bind fun ds => some (d :: ds)).bind fun ds => some (mkRes ds, p10.2)))))
theorem e91 (t0 : D) (t1 : D) (h : Hp) : R fn91 [t0, t1] h = F91 t0 t1 h :=
  (run_fn (X := X) (F := Fs) (fi := i92) (by kernel_rfl) _ _).trans (by kernel_rfl)
noncomputable def F1065_L1 (t0 : D) (t1 : D) (t3 : D) (ds_1 : List D) (h_2 : Hp) : Option Out :=
 (some (nth 0 ds_1)).bind fun t18 =>
 (some t1).bind fun t19 =>
 (dBin tab .gtr ty3 t18 t19).bind fun t20 =>
 (some t20).bind fun t21 =>
 (gd t21 true (some t3)).bind fun t22 =>
 (gd t21 true (some t0)).bind fun t23 =>
 (gd t21 true (some (nth 0 ds_1))).bind fun t24 =>
 (gd t21 true (dIndexAddr tab ty29 t23 t24)).bind fun t25 =>
 (gd t21 true (dLoad tab h_2 ty109 t25)).bind fun t26 =>
 (gd t21 true (some t0)).bind fun t27 =>
 (gd t21 true (some (nth 0 ds_1))).bind fun t28 =>
 (gd t21 true (dBin tab .sub ty3 t28 (.int .i64 1))).bind fun t29 =>
 (gd t21 true (dIndexAddr tab ty29 t27 t29)).bind fun t30 =>
 (gd t21 true (dLoad tab h_2 ty109 t30)).bind fun t31 =>
 (gdW t21 true h_2 (callV R t22 [t26, t31] h_2)).bind fun p32 =>
 (gd t21 true (dBin tab .lss ty3 p32.1 (.int .i64 0))).bind fun t33 =>
 (dPick t21 t33 (.bool false)).bind fun t34 =>
 dIf t34
   ((some t0).bind fun t37 =>
 (some (nth 0 ds_1)).bind fun t38 =>
 (some t0).bind fun t39 =>
 (some (nth 0 ds_1)).bind fun t40 =>
 (dBin tab .sub ty3 t40 (.int .i64 1)).bind fun t41 =>
 (some t0).bind fun t42 =>
 (some (nth 0 ds_1)).bind fun t43 =>
 (dBin tab .sub ty3 t43 (.int .i64 1)).bind fun t44 =>
 (dIndexAddr tab ty29 t42 t44).bind fun t45 =>
 (dLoad tab p32.2 ty109 t45).bind fun t46 =>
 (some t0).bind fun t47 =>
 (some (nth 0 ds_1)).bind fun t48 =>
 (dIndexAddr tab ty29 t47 t48).bind fun t49 =>
 (dLoad tab p32.2 ty109 t49).bind fun t50 =>
 (dIndexAddr tab ty29 t37 t38).bind fun t51 =>
 ((dStore tab p32.2 ty109 t51 t46).bind fun h' => some ((.und : D), h')).bind fun p915 =>
 (dIndexAddr tab ty29 t39 t41).bind fun t52 =>
 ((dStore tab p915.2 ty109 t52 t50).bind fun h' => some ((.und : D), h')).bind fun p917 =>
 (some (nth 0 ds_1)).bind fun t35 =>
 (dBin tab .sub ty3 t35 (.int .i64 1)).bind fun t36 =>
 (some t36).bind fun t9_1 =>
 some (.nrm, [t9_1, t34], p917.2))
   (some ((.ext 2), [(nth 0 ds_1), t34], p32.2))
noncomputable def F1065_L0 (t0 : D) (t1 : D) (t2 : D) (t3 : D) (ds : List D) (h_1 : Hp) : Option Out :=
 (some (nth 0 ds)).bind fun t12 =>
 (some t2).bind fun t13 =>
 (dBin tab .lss ty3 t12 t13).bind fun t14 =>
 dIf t14
   ((some (nth 0 ds)).bind fun t17 =>
 (some t17).bind fun t9 =>
 ((loopW (F1065_L1 t0 t1 t3) [t9, (nth 3 ds)] h_1).bind fun r_1 =>
 some ((unblk 2 r_1.1), [(nth 0 r_1.2.1), (nth 1 r_1.2.1)], r_1.2.2)).bind fun r_2 =>
 toEnd (unblk 1 r_2.1) ((some (nth 0 ds)).bind fun t15 =>
 (dBin tab .add ty3 t15 (.int .i64 1)).bind fun t16 =>
 (some t16).bind fun t8_1 =>
 some (.nrm, [t8_1, (nth 0 r_2.2.1), t14, (nth 1 r_2.2.1)], r_2.2.2)) fun x => some (x, [(nth 0 ds), (nth 0 r_2.2.1), t14, (nth 1 r_2.2.1)], r_2.2.2))
   (some ((.ext 0), [(nth 0 ds), (nth 1 ds), t14, (nth 3 ds)], h_1))
noncomputable def F1065 (t0 : D) (t1 : D) (t2 : D) (t3 : D) (h : Hp) : Option (D × Hp) :=
  (some t1).bind fun t10 =>
 (dBin tab .add ty3 t10 (.int .i64 1)).bind fun t11 =>
 (some t11).bind fun t8 =>
 ((loopW (F1065_L0 t0 t1 t2 t3) [t8, .any, .any, .any] h).bind fun r =>
 some ((unblk 0 r.1), [(nth 0 r.2.1), (nth 1 r.2.1), (nth 2 r.2.1), (nth 3 r.2.1)], r.2.2)).bind fun r_3 =>
 exEnd r_3.1 ((some ([] : List D)).bind fun ds => some (mkRes ds, r_3.2.2))
theorem e1065 (t0 : D) (t1 : D) (t2 : D) (t3 : D) (h : Hp) : R fn1065 [t0, t1, t2, t3] h = F1065 t0 t1 t2 t3 h :=
  (run_fn (X := X) (F := Fs) (fi := i96) (by kernel_rfl) _ _).trans (by kernel_rfl)
noncomputable def F1066_L0 (a0 : D) (a4 : D) (t22 : D) (ds : List D) (h_3 : Hp) : Option Out :=
 (some (nth 0 ds)).bind fun t149 =>
 (some (nth 1 ds)).bind fun t150 =>
 (dBin tab .lss ty3 t149 t150).bind fun t151 =>
 dIf t151
   ((some (nth 0 ds)).bind fun t152 =>
 (some (nth 1 ds)).bind fun t153 =>
 (dBin tab .add ty3 t152 t153).bind fun t154 =>
 (dConv tab ty3 ty134 t154).bind fun t155 =>
 (dBin tab .shr ty134 t155 (.int .u64 1)).bind fun t156 =>
 (dConv tab ty134 ty3 t156).bind fun t157 =>
 (some t157).bind fun t23 =>
 (some a4).bind fun t158 =>
 (some a0).bind fun t159 =>
 (some t22).bind fun t160 =>
 (some t23).bind fun t161 =>
 (dBin tab .sub ty3 t160 t161).bind fun t162 =>
 (dIndexAddr tab ty29 t159 t162).bind fun t163 =>
 (dLoad tab h_3 ty109 t163).bind fun t164 =>
 (some a0).bind fun t165 =>
 (some t23).bind fun t166 =>
 (dIndexAddr tab ty29 t165 t166).bind fun t167 =>
 (dLoad tab h_3 ty109 t167).bind fun t168 =>
 (callV R t158 [t164, t168] h_3).bind fun p169 =>
 (dBin tab .lss ty3 p169.1 (.int .i64 0)).bind fun t170 =>
 (dUn .not t170).bind fun t171 =>
 (dIf t171
   ((some t23).bind fun t172 =>
 (dBin tab .add ty3 t172 (.int .i64 1)).bind fun t173 =>
 (some t173).bind fun t20_3 =>
 some (.nrm, [t20_3, (nth 1 ds)], p169.2))
   ((some t23).bind fun t174 =>
 (some t174).bind fun t21_3 =>
 some (.nrm, [(nth 0 ds), t21_3], p169.2))).bind fun r_2 =>
 some ((unblk 9 r_2.1), [(nth 0 r_2.2.1), (nth 1 r_2.2.1), t23, t151, t171], r_2.2.2))
   (some ((.ext 8), [(nth 0 ds), (nth 1 ds), (nth 2 ds), t151, (nth 4 ds)], h_3))
noncomputable def F1066_R1 (a0 : D) (a1 : D) (a2 : D) (a3 : D) (a4 : D) (h_2 : Hp) : Option (D × Hp) :=
    (some a1).bind fun t129 =>
 (some a3).bind fun t130 =>
 (dBin tab .add ty3 t129 t130).bind fun t131 =>
 (dConv tab ty3 ty134 t131).bind fun t132 =>
 (dBin tab .shr ty134 t132 (.int .u64 1)).bind fun t133 =>
 (dConv tab ty134 ty3 t133).bind fun t134 =>
 (some t134).bind fun t18 =>
 (some t18).bind fun t135 =>
 (some a2).bind fun t136 =>
 (dBin tab .add ty3 t135 t136).bind fun t137 =>
 (some t137).bind fun t19 =>
 (some (.int .i64 0 : D)).bind fun t20 =>
 (some (.int .i64 0 : D)).bind fun t21 =>
 (some a2).bind fun t138 =>
 (some t18).bind fun t139 =>
 (dBin tab .gtr ty3 t138 t139).bind fun t140 =>
 (dIf t140
   ((some t19).bind fun t141 =>
 (some a3).bind fun t142 =>
 (dBin tab .sub ty3 t141 t142).bind fun t143 =>
 (some t143).bind fun t20_1 =>
 (some t18).bind fun t144 =>
 (some t144).bind fun t21_1 =>
 some (.nrm, [t20_1, t21_1], h_2))
   ((some a1).bind fun t145 =>
 (some t145).bind fun t20_2 =>
 (some a2).bind fun t146 =>
 (some t146).bind fun t21_2 =>
 some (.nrm, [t20_2, t21_2], h_2))).bind fun r =>
 toEnd r.1 ((some t19).bind fun t147 =>
 (dBin tab .sub ty3 t147 (.int .i64 1)).bind fun t148 =>
 (some t148).bind fun t22 =>
 ((loopW (F1066_L0 a0 a4 t22) [(nth 0 r.2.1), (nth 1 r.2.1), .any, .any, .any] r.2.2).bind fun r_1 =>
 some ((unblk 8 r_1.1), [(nth 0 r_1.2.1), (nth 1 r_1.2.1), (nth 2 r_1.2.1), (nth 3 r_1.2.1), (nth 4 r_1.2.1)], r_1.2.2)).bind fun r_3 =>
 toEnd r_3.1 ((some t19).bind fun t175 =>
 (some (nth 0 r_3.2.1)).bind fun t176 =>
 (dBin tab .sub ty3 t175 t176).bind fun t177 =>
 (some t177).bind fun t24 =>
 (some (nth 0 r_3.2.1)).bind fun t178 =>
 (some a2).bind fun t179 =>
 (dBin tab .lss ty3 t178 t179).bind fun t180 =>
 (some t180).bind fun t181 =>
 (gd t181 true (some a2)).bind fun t182 =>
 (gd t181 true (some t24)).bind fun t183 =>
 (gd t181 true (dBin tab .lss ty3 t182 t183)).bind fun t184 =>
 (dPick t181 t184 (.bool false)).bind fun t185 =>
 (dIf t185
   ((some a0).bind fun t186 =>
 (some (nth 0 r_3.2.1)).bind fun t187 =>
 (some a2).bind fun t188 =>
 (some t24).bind fun t189 =>
 (some a4).bind fun t190 =>
 (R fn1068 [t186, t187, t188, t189, t190] r_3.2.2).bind fun p191 =>
 some (.nrm, ([] : List D), p191.2))
   (some (.nrm, ([] : List D), r_3.2.2))).bind fun r_4 =>
 toEnd r_4.1 ((some a1).bind fun t192 =>
 (some (nth 0 r_3.2.1)).bind fun t193 =>
 (dBin tab .lss ty3 t192 t193).bind fun t194 =>
 (some t194).bind fun t195 =>
 (gd t195 true (some (nth 0 r_3.2.1))).bind fun t196 =>
 (gd t195 true (some t18)).bind fun t197 =>
 (gd t195 true (dBin tab .lss ty3 t196 t197)).bind fun t198 =>
 (dPick t195 t198 (.bool false)).bind fun t199 =>
 (dIf t199
   ((some a0).bind fun t200 =>
 (some a1).bind fun t201 =>
 (some (nth 0 r_3.2.1)).bind fun t202 =>
 (some t18).bind fun t203 =>
 (some a4).bind fun t204 =>
 (R fn1066 [t200, t201, t202, t203, t204] r_4.2.2).bind fun p205 =>
 some (.nrm, ([] : List D), p205.2))
   (some (.nrm, ([] : List D), r_4.2.2))).bind fun r_5 =>
 toEnd r_5.1 ((some t18).bind fun t206 =>
 (some t24).bind fun t207 =>
 (dBin tab .lss ty3 t206 t207).bind fun t208 =>
 (some t208).bind fun t209 =>
 (gd t209 true (some t24)).bind fun t210 =>
 (gd t209 true (some a3)).bind fun t211 =>
 (gd t209 true (dBin tab .lss ty3 t210 t211)).bind fun t212 =>
 (dPick t209 t212 (.bool false)).bind fun t213 =>
 (dIf t213
   ((some a0).bind fun t214 =>
 (some t18).bind fun t215 =>
 (some t24).bind fun t216 =>
 (some a3).bind fun t217 =>
 (some a4).bind fun t218 =>
 (R fn1066 [t214, t215, t216, t217, t218] r_5.2.2).bind fun p219 =>
 some (.nrm, ([] : List D), p219.2))
   (some (.nrm, ([] : List D), r_5.2.2))).bind fun r_6 =>
 exEnd r_6.1 ((some ([] : List D)).bind fun ds => some (mkRes ds, r_6.2.2))) fun x_3 => exEnd x_3 ((some ([] : List D)).bind fun ds => some (mkRes ds, r_5.2.2))) fun x_2 => exEnd x_2 ((some ([] : List D)).bind fun ds => some (mkRes ds, r_4.2.2))) fun x_1 => exEnd x_1 ((some ([] : List D)).bind fun ds => some (mkRes ds, r_3.2.2))) fun x => exEnd x ((some ([] : List D)).bind fun ds => some (mkRes ds, r.2.2))
noncomputable def F1066_L1 (a0 : D) (a2 : D) (a4 : D) (ds_1 : List D) (h_4 : Hp) : Option Out :=
 (some (nth 0 ds_1)).bind fun t83 =>
 (some (nth 1 ds_1)).bind fun t84 =>
 (dBin tab .lss ty3 t83 t84).bind fun t85 =>
 dIf t85
   ((some (nth 0 ds_1)).bind fun t86 =>
 (some (nth 1 ds_1)).bind fun t87 =>
 (dBin tab .add ty3 t86 t87).bind fun t88 =>
 (dConv tab ty3 ty134 t88).bind fun t89 =>
 (dBin tab .shr ty134 t89 (.int .u64 1)).bind fun t90 =>
 (dConv tab ty134 ty3 t90).bind fun t91 =>
 (some t91).bind fun t16 =>
 (some a4).bind fun t92 =>
 (some a0).bind fun t93 =>
 (some a2).bind fun t94 =>
 (dIndexAddr tab ty29 t93 t94).bind fun t95 =>
 (dLoad tab h_4 ty109 t95).bind fun t96 =>
 (some a0).bind fun t97 =>
 (some t16).bind fun t98 =>
 (dIndexAddr tab ty29 t97 t98).bind fun t99 =>
 (dLoad tab h_4 ty109 t99).bind fun t100 =>
 (callV R t92 [t96, t100] h_4).bind fun p101 =>
 (dBin tab .lss ty3 p101.1 (.int .i64 0)).bind fun t102 =>
 (dUn .not t102).bind fun t103 =>
 (dIf t103
   ((some t16).bind fun t104 =>
 (dBin tab .add ty3 t104 (.int .i64 1)).bind fun t105 =>
 (some t105).bind fun t14_1 =>
 some (.nrm, [t14_1, (nth 1 ds_1)], p101.2))
   ((some t16).bind fun t106 =>
 (some t106).bind fun t15_1 =>
 some (.nrm, [(nth 0 ds_1), t15_1], p101.2))).bind fun r_8 =>
 some ((unblk 5 r_8.1), [(nth 0 r_8.2.1), (nth 1 r_8.2.1), t16, t85, t103], r_8.2.2))
   (some ((.ext 4), [(nth 0 ds_1), (nth 1 ds_1), (nth 2 ds_1), t85, (nth 4 ds_1)], h_4))
noncomputable def F1066_L2 (a0 : D) (r_9 : Out) (ds_2 : List D) (h_5 : Hp) : Option Out :=
 (some (nth 0 ds_2)).bind fun t108 =>
 (some (nth 0 r_9.2.1)).bind fun t109 =>
 (dBin tab .gtr ty3 t108 t109).bind fun t110 =>
 dIf t110
   ((some a0).bind fun t113 =>
 (some (nth 0 ds_2)).bind fun t114 =>
 (some a0).bind fun t115 =>
 (some (nth 0 ds_2)).bind fun t116 =>
 (dBin tab .sub ty3 t116 (.int .i64 1)).bind fun t117 =>
 (some a0).bind fun t118 =>
 (some (nth 0 ds_2)).bind fun t119 =>
 (dBin tab .sub ty3 t119 (.int .i64 1)).bind fun t120 =>
 (dIndexAddr tab ty29 t118 t120).bind fun t121 =>
 (dLoad tab h_5 ty109 t121).bind fun t122 =>
 (some a0).bind fun t123 =>
 (some (nth 0 ds_2)).bind fun t124 =>
 (dIndexAddr tab ty29 t123 t124).bind fun t125 =>
 (dLoad tab h_5 ty109 t125).bind fun t126 =>
 (dIndexAddr tab ty29 t113 t114).bind fun t127 =>
 ((dStore tab h_5 ty109 t127 t122).bind fun h' => some ((.und : D), h')).bind fun p915 =>
 (dIndexAddr tab ty29 t115 t117).bind fun t128 =>
 ((dStore tab p915.2 ty109 t128 t126).bind fun h' => some ((.und : D), h')).bind fun p917 =>
 (some (nth 0 ds_2)).bind fun t111 =>
 (dBin tab .sub ty3 t111 (.int .i64 1)).bind fun t112 =>
 (some t112).bind fun t17_1 =>
 some (.nrm, [t17_1, t110], p917.2))
   (some ((.ext 6), [(nth 0 ds_2), t110], h_5))
noncomputable def F1066_R0 (a0 : D) (a1 : D) (a2 : D) (a3 : D) (a4 : D) (h_1 : Hp) : Option (D × Hp) :=
    (some a3).bind fun t77 =>
 (some a2).bind fun t78 =>
 (dBin tab .sub ty3 t77 t78).bind fun t79 =>
 (dBin tab .eql ty3 t79 (.int .i64 1)).bind fun t80 =>
 dIf t80
   ((some a1).bind fun t81 =>
 (some t81).bind fun t14 =>
 (some a2).bind fun t82 =>
 (some t82).bind fun t15 =>
 ((loopW (F1066_L1 a0 a2 a4) [t14, t15, .any, .any, .any] h_1).bind fun r_7 =>
 some ((unblk 4 r_7.1), [(nth 0 r_7.2.1), (nth 1 r_7.2.1), (nth 2 r_7.2.1), (nth 3 r_7.2.1), (nth 4 r_7.2.1)], r_7.2.2)).bind fun r_9 =>
 toEnd r_9.1 ((some a2).bind fun t107 =>
 (some t107).bind fun t17 =>
 ((loopW (F1066_L2 a0 r_9) [t17, .any] r_9.2.2).bind fun r_10 =>
 some ((unblk 6 r_10.1), [(nth 0 r_10.2.1), (nth 1 r_10.2.1)], r_10.2.2)).bind fun r_11 =>
 toEnd r_11.1 ((some ([] : List D)).bind fun ds => some (mkRes ds, r_11.2.2)) fun x_5 => toEnd x_5 (F1066_R1 a0 a1 a2 a3 a4 r_11.2.2) fun x_6 => exEnd x_6 ((some ([] : List D)).bind fun ds => some (mkRes ds, r_11.2.2))) fun x_4 => toEnd x_4 (F1066_R1 a0 a1 a2 a3 a4 r_9.2.2) fun x_7 => exEnd x_7 ((some ([] : List D)).bind fun ds => some (mkRes ds, r_9.2.2)))
   (F1066_R1 a0 a1 a2 a3 a4 h_1)
noncomputable def F1066_L3 (t0 : D) (t1 : D) (t4 : D) (ds_3 : List D) (h_6 : Hp) : Option Out :=
 (some (nth 0 ds_3)).bind fun t31 =>
 (some (nth 1 ds_3)).bind fun t32 =>
 (dBin tab .lss ty3 t31 t32).bind fun t33 =>
 dIf t33
   ((some (nth 0 ds_3)).bind fun t34 =>
 (some (nth 1 ds_3)).bind fun t35 =>
 (dBin tab .add ty3 t34 t35).bind fun t36 =>
 (dConv tab ty3 ty134 t36).bind fun t37 =>
 (dBin tab .shr ty134 t37 (.int .u64 1)).bind fun t38 =>
 (dConv tab ty134 ty3 t38).bind fun t39 =>
 (some t39).bind fun t12 =>
 (some t4).bind fun t40 =>
 (some t0).bind fun t41 =>
 (some t12).bind fun t42 =>
 (dIndexAddr tab ty29 t41 t42).bind fun t43 =>
 (dLoad tab h_6 ty109 t43).bind fun t44 =>
 (some t0).bind fun t45 =>
 (some t1).bind fun t46 =>
 (dIndexAddr tab ty29 t45 t46).bind fun t47 =>
 (dLoad tab h_6 ty109 t47).bind fun t48 =>
 (callV R t40 [t44, t48] h_6).bind fun p49 =>
 (dBin tab .lss ty3 p49.1 (.int .i64 0)).bind fun t50 =>
 (dIf t50
   ((some t12).bind fun t51 =>
 (dBin tab .add ty3 t51 (.int .i64 1)).bind fun t52 =>
 (some t52).bind fun t10_1 =>
 some (.nrm, [t10_1, (nth 1 ds_3)], p49.2))
   ((some t12).bind fun t53 =>
 (some t53).bind fun t11_1 =>
 some (.nrm, [(nth 0 ds_3), t11_1], p49.2))).bind fun r_13 =>
 some ((unblk 1 r_13.1), [(nth 0 r_13.2.1), (nth 1 r_13.2.1), t12, t33, t50], r_13.2.2))
   (some ((.ext 0), [(nth 0 ds_3), (nth 1 ds_3), (nth 2 ds_3), t33, (nth 4 ds_3)], h_6))
noncomputable def F1066_L4 (t0 : D) (r_14 : Out) (ds_4 : List D) (h_7 : Hp) : Option Out :=
 (some (nth 0 ds_4)).bind fun t55 =>
 (some (nth 0 r_14.2.1)).bind fun t56 =>
 (dBin tab .sub ty3 t56 (.int .i64 1)).bind fun t57 =>
 (dBin tab .lss ty3 t55 t57).bind fun t58 =>
 dIf t58
   ((some t0).bind fun t61 =>
 (some (nth 0 ds_4)).bind fun t62 =>
 (some t0).bind fun t63 =>
 (some (nth 0 ds_4)).bind fun t64 =>
 (dBin tab .add ty3 t64 (.int .i64 1)).bind fun t65 =>
 (some t0).bind fun t66 =>
 (some (nth 0 ds_4)).bind fun t67 =>
 (dBin tab .add ty3 t67 (.int .i64 1)).bind fun t68 =>
 (dIndexAddr tab ty29 t66 t68).bind fun t69 =>
 (dLoad tab h_7 ty109 t69).bind fun t70 =>
 (some t0).bind fun t71 =>
 (some (nth 0 ds_4)).bind fun t72 =>
 (dIndexAddr tab ty29 t71 t72).bind fun t73 =>
 (dLoad tab h_7 ty109 t73).bind fun t74 =>
 (dIndexAddr tab ty29 t61 t62).bind fun t75 =>
 ((dStore tab h_7 ty109 t75 t70).bind fun h' => some ((.und : D), h')).bind fun p915_1 =>
 (dIndexAddr tab ty29 t63 t65).bind fun t76 =>
 ((dStore tab p915_1.2 ty109 t76 t74).bind fun h' => some ((.und : D), h')).bind fun p917_1 =>
 (some (nth 0 ds_4)).bind fun t59 =>
 (dBin tab .add ty3 t59 (.int .i64 1)).bind fun t60 =>
 (some t60).bind fun t13_1 =>
 some (.nrm, [t13_1, t58], p917_1.2))
   (some ((.ext 2), [(nth 0 ds_4), t58], h_7))
noncomputable def F1066 (t0 : D) (t1 : D) (t2 : D) (t3 : D) (t4 : D) (h : Hp) : Option (D × Hp) :=
  (some t2).bind fun t25 =>
 (some t1).bind fun t26 =>
 (dBin tab .sub ty3 t25 t26).bind fun t27 =>
 (dBin tab .eql ty3 t27 (.int .i64 1)).bind fun t28 =>
 dIf t28
   ((some t2).bind fun t29 =>
 (some t29).bind fun t10 =>
 (some t3).bind fun t30 =>
 (some t30).bind fun t11 =>
 ((loopW (F1066_L3 t0 t1 t4) [t10, t11, .any, .any, .any] h).bind fun r_12 =>
 some ((unblk 0 r_12.1), [(nth 0 r_12.2.1), (nth 1 r_12.2.1), (nth 2 r_12.2.1), (nth 3 r_12.2.1), (nth 4 r_12.2.1)], r_12.2.2)).bind fun r_14 =>
 toEnd r_14.1 ((some t1).bind fun t54 =>
 (some t54).bind fun t13 =>
 ((loopW (F1066_L4 t0 r_14) [t13, .any] r_14.2.2).bind fun r_15 =>
 some ((unblk 2 r_15.1), [(nth 0 r_15.2.1), (nth 1 r_15.2.1)], r_15.2.2)).bind fun r_16 =>
 toEnd r_16.1 ((some ([] : List D)).bind fun ds => some (mkRes ds, r_16.2.2)) fun x_9 => toEnd x_9 (F1066_R0 t0 t1 t2 t3 t4 r_16.2.2) fun x_10 => exEnd x_10 ((some ([] : List D)).bind fun ds => some (mkRes ds, r_16.2.2))) fun x_8 => toEnd x_8 (F1066_R0 t0 t1 t2 t3 t4 r_14.2.2) fun x_11 => exEnd x_11 ((some ([] : List D)).bind fun ds => some (mkRes ds, r_14.2.2)))
   (F1066_R0 t0 t1 t2 t3 t4 h)
theorem e1066 (t0 : D) (t1 : D) (t2 : D) (t3 : D) (t4 : D) (h : Hp) : R fn1066 [t0, t1, t2, t3, t4] h = F1066 t0 t1 t2 t3 t4 h :=
  (run_fn (X := X) (F := Fs) (fi := i97) (by kernel_rfl) _ _).trans (by kernel_rfl)
noncomputable def F1021 (t0 : D) (h : Hp) : Option (D × Hp) :=
  (some (.bool false : D)).bind fun t2 =>
 (some t0).bind fun t3 =>
 (dBin tab .geq ty5 t3 (.int .u8 48)).bind fun t4 =>
 (some t4).bind fun t5 =>
 (gd t5 true (some t0)).bind fun t6 =>
 (gd t5 true (dBin tab .leq ty5 t6 (.int .u8 57))).bind fun t7 =>
 (dPick t5 t7 (.bool false)).bind fun t8 =>
 (some t8).bind fun t2_1 =>
 ((some t2_1).bind fun d => (some ([] : List D)).bind fun ds => some (d :: ds)).bind fun ds => some (mkRes ds, h)
theorem e1021 (t0 : D) (h : Hp) : R fn1021 [t0] h = F1021 t0 h :=
  (run_fn (X := X) (F := Fs) (fi := i99) (by kernel_rfl) _ _).trans (by kernel_rfl)
noncomputable def F100 (t0 : D) (h : Hp) : Option (D × Hp) :=
  (some (.bool false : D)).bind fun t2 =>
 (some t0).bind fun t3 =>
 (some t0).bind fun t4 =>
 (dBin tab .neq ty9 t3 t4).bind fun t5 =>
 (some t5).bind fun t2_1 =>
 ((some t2_1).bind fun d => (some ([] : List D)).bind fun ds => some (d :: ds)).bind fun ds => some (mkRes ds, h)
theorem e100 (t0 : D) (h : Hp) : R fn100 [t0] h = F100 t0 h :=
  (run_fn (X := X) (F := Fs) (fi := i100) (by kernel_rfl) _ _).trans (by kernel_rfl)
noncomputable def F1068_L0 (t0 : D) (t2 : D) (t4 : D) (ds : List D) (h_1 : Hp) : Option Out :=
 (some (nth 0 ds)).bind fun t18 =>
 (some (nth 1 ds)).bind fun t19 =>
 (dBin tab .neq ty3 t18 t19).bind fun t20 =>
 dIf t20
   ((some (nth 0 ds)).bind fun t21 =>
 (some (nth 1 ds)).bind fun t22 =>
 (dBin tab .gtr ty3 t21 t22).bind fun t23 =>
 (dIf t23
   ((some t0).bind fun t24 =>
 (some t2).bind fun t25 =>
 (some (nth 0 ds)).bind fun t26 =>
 (dBin tab .sub ty3 t25 t26).bind fun t27 =>
 (some t2).bind fun t28 =>
 (some (nth 1 ds)).bind fun t29 =>
 (some t4).bind fun t30 =>
 (R fn1069 [t24, t27, t28, t29, t30] h_1).bind fun p31 =>
 (some (nth 0 ds)).bind fun t32 =>
 (some (nth 1 ds)).bind fun t33 =>
 (dBin tab .sub ty3 t32 t33).bind fun t34 =>
 (some t34).bind fun t10_1 =>
 some (.nrm, [t10_1, (nth 1 ds)], p31.2))
   ((some t0).bind fun t35 =>
 (some t2).bind fun t36 =>
 (some (nth 0 ds)).bind fun t37 =>
 (dBin tab .sub ty3 t36 t37).bind fun t38 =>
 (some t2).bind fun t39 =>
 (some (nth 1 ds)).bind fun t40 =>
 (dBin tab .add ty3 t39 t40).bind fun t41 =>
 (some (nth 0 ds)).bind fun t42 =>
 (dBin tab .sub ty3 t41 t42).bind fun t43 =>
 (some (nth 0 ds)).bind fun t44 =>
 (some t4).bind fun t45 =>
 (R fn1069 [t35, t38, t43, t44, t45] h_1).bind fun p46 =>
 (some (nth 1 ds)).bind fun t47 =>
 (some (nth 0 ds)).bind fun t48 =>
 (dBin tab .sub ty3 t47 t48).bind fun t49 =>
 (some t49).bind fun t11_1 =>
 some (.nrm, [(nth 0 ds), t11_1], p46.2))).bind fun r_1 =>
 some ((unblk 1 r_1.1), [(nth 0 r_1.2.1), (nth 1 r_1.2.1), t20, t23], r_1.2.2))
   (some ((.ext 0), [(nth 0 ds), (nth 1 ds), t20, (nth 3 ds)], h_1))
noncomputable def F1068 (t0 : D) (t1 : D) (t2 : D) (t3 : D) (t4 : D) (h : Hp) : Option (D × Hp) :=
  (some t2).bind fun t12 =>
 (some t1).bind fun t13 =>
 (dBin tab .sub ty3 t12 t13).bind fun t14 =>
 (some t14).bind fun t10 =>
 (some t3).bind fun t15 =>
 (some t2).bind fun t16 =>
 (dBin tab .sub ty3 t15 t16).bind fun t17 =>
 (some t17).bind fun t11 =>
 ((loopW (F1068_L0 t0 t2 t4) [t10, t11, .any, .any] h).bind fun r =>
 some ((unblk 0 r.1), [(nth 0 r.2.1), (nth 1 r.2.1), (nth 2 r.2.1), (nth 3 r.2.1)], r.2.2)).bind fun r_2 =>
 toEnd r_2.1 ((some t0).bind fun t50 =>
 (some t2).bind fun t51 =>
 (some (nth 0 r_2.2.1)).bind fun t52 =>
 (dBin tab .sub ty3 t51 t52).bind fun t53 =>
 (some t2).bind fun t54 =>
 (some (nth 0 r_2.2.1)).bind fun t55 =>
 (some t4).bind fun t56 =>
 (R fn1069 [t50, t53, t54, t55, t56] r_2.2.2).bind fun p57 =>
 (some ([] : List D)).bind fun ds => some (mkRes ds, p57.2)) fun x => exEnd x ((some ([] : List D)).bind fun ds => some (mkRes ds, r_2.2.2))
theorem e1068 (t0 : D) (t1 : D) (t2 : D) (t3 : D) (t4 : D) (h : Hp) : R fn1068 [t0, t1, t2, t3, t4] h = F1068 t0 t1 t2 t3 t4 h :=
  (run_fn (X := X) (F := Fs) (fi := i102) (by kernel_rfl) _ _).trans (by kernel_rfl)
noncomputable def F1069_L0 (t0 : D) (t1 : D) (t2 : D) (t3 : D) (ds : List D) (h_1 : Hp) : Option Out :=
 (some (nth 0 ds)).bind fun t11 =>
 (some t3).bind fun t12 =>
 (dBin tab .lss ty3 t11 t12).bind fun t13 =>
 dIf t13
   ((some t0).bind fun t16 =>
 (some t1).bind fun t17 =>
 (some (nth 0 ds)).bind fun t18 =>
 (dBin tab .add ty3 t17 t18).bind fun t19 =>
 (some t0).bind fun t20 =>
 (some t2).bind fun t21 =>
 (some (nth 0 ds)).bind fun t22 =>
 (dBin tab .add ty3 t21 t22).bind fun t23 =>
 (some t0).bind fun t24 =>
 (some t2).bind fun t25 =>
 (some (nth 0 ds)).bind fun t26 =>
 (dBin tab .add ty3 t25 t26).bind fun t27 =>
 (dIndexAddr tab ty29 t24 t27).bind fun t28 =>
 (dLoad tab h_1 ty109 t28).bind fun t29 =>
 (some t0).bind fun t30 =>
 (some t1).bind fun t31 =>
 (some (nth 0 ds)).bind fun t32 =>
 (dBin tab .add ty3 t31 t32).bind fun t33 =>
 (dIndexAddr tab ty29 t30 t33).bind fun t34 =>
 (dLoad tab h_1 ty109 t34).bind fun t35 =>
 (dIndexAddr tab ty29 t16 t19).bind fun t36 =>
 ((dStore tab h_1 ty109 t36 t29).bind fun h' => some ((.und : D), h')).bind fun p921 =>
 (dIndexAddr tab ty29 t20 t23).bind fun t37 =>
 ((dStore tab p921.2 ty109 t37 t35).bind fun h' => some ((.und : D), h')).bind fun p923 =>
 (some (nth 0 ds)).bind fun t14 =>
 (dBin tab .add ty3 t14 (.int .i64 1)).bind fun t15 =>
 (some t15).bind fun t10_1 =>
 some (.nrm, [t10_1, t13], p923.2))
   (some ((.ext 0), [(nth 0 ds), t13], h_1))
noncomputable def F1069 (t0 : D) (t1 : D) (t2 : D) (t3 : D) (t4 : D) (h : Hp) : Option (D × Hp) :=
  (some (.int .i64 0 : D)).bind fun t10 =>
 ((loopW (F1069_L0 t0 t1 t2 t3) [t10, .any] h).bind fun r =>
 some ((unblk 0 r.1), [(nth 0 r.2.1), (nth 1 r.2.1)], r.2.2)).bind fun r_1 =>
 exEnd r_1.1 ((some ([] : List D)).bind fun ds => some (mkRes ds, r_1.2.2))
theorem e1069 (t0 : D) (t1 : D) (t2 : D) (t3 : D) (t4 : D) (h : Hp) : R fn1069 [t0, t1, t2, t3, t4] h = F1069 t0 t1 t2 t3 t4 h :=
  (run_fn (X := X) (F := Fs) (fi := i104) (by kernel_rfl) _ _).trans (by kernel_rfl)
end Go.Proofs.YthaajlepgblimaaDoor
