/- Functions as Lean functions on data. -/
import Derived.Test.YteglojieneaojaaB1
set_option linter.unusedSimpArgs false
set_option linter.unusedVariables false
set_option linter.unnecessarySimpa false
set_option maxRecDepth 100000
namespace Go.Proofs.Yteglojieneaojaa
open Go.Eng Go.Pi
/-- a loop: slots 11 12 35 -/
noncomputable def F1166_L0 (t1 : D) (t10 : D) (ds : List D) (h_1 : Hp) : Option Out :=
    (some ((nth 1 ds) : D)).bind fun t32 =>
    (some (t1 : D)).bind fun t33 =>
    (dLenT tab ty82 t33).bind fun t34 =>
    (dBin tab .lss ty3 t32 t34).bind fun t35 =>
    dIf t35
      ((some ((nth 0 ds) : D)).bind fun t38 =>
    (some (t10 : D)).bind fun t39 =>
    (R fn102 [t39] h_1).bind fun p40 =>
    (some ((nth 1 ds) : D)).bind fun t41 =>
    (dConv tab ty3 ty5 t41).bind fun t42 =>
    (pLitF tab ty22 1 [0] [t42]).bind fun t43 =>
    (dToStr p40.2 t43).bind fun t44 =>
    (pLitF tab ty98 2 [0, 1] [p40.1, t44]).bind fun t45 =>
    (some (t1 : D)).bind fun t46 =>
    (some ((nth 1 ds) : D)).bind fun t47 =>
    (dIndexAddr tab ty82 t46 t47).bind fun t48 =>
    (dLoad tab p40.2 ty3 t48).bind fun t49 =>
    (some (t10 : D)).bind fun t50 =>
    (R fn47 [t50] p40.2).bind fun p51 =>
    (pLitF tab ty82 2 [0, 1] [t49, p51.1]).bind fun t52 =>
    (dBuild tab ty1146 [0, 1] [t45, t52]).bind fun t53 =>
    (pLitF tab ty1144 1 [0] [t53]).bind fun t54 =>
    (dAppend tab p51.2 ty1144 ty1144 t38 t54).bind fun p55 =>
    chk (dToStr h_1 t43 = some t44)
    (chk (dToStr p51.2 t43 = some t44)
    (chk (dLoad tab h_1 ty3 t48 = some t49)
    (chk (dLoad tab p51.2 ty3 t48 = some t49)
    ((some (p55.1 : D)).bind fun t11_1 =>
    (some ((nth 1 ds) : D)).bind fun t36 =>
    (dBin tab .add ty3 t36 (.int .i64 1)).bind fun t37 =>
    (some (t37 : D)).bind fun t12_1 =>
    some (.nrm, [t11_1, t12_1, t35], p55.2))))))
      (some ((.ext 0), [(nth 0 ds), (nth 1 ds), t35], h_1))
noncomputable def F1166 (t0 : D) (t1 : D) (t2 : D) (h : Hp) : Option (D × Hp) :=
  (some (.bool false : D)).bind fun t6 =>
  (R fn1168 [] h).bind fun p15 =>
  (dUn .not p15.1).bind fun t16 =>
  (some (t16 : D)).bind fun t17 =>
  (gd t17 false (some (t1 : D))).bind fun t18 =>
  (gd t17 false (dLenT tab ty82 t18)).bind fun t19 =>
  (gd t17 false (dBin tab .gtr ty3 t19 (.int .i64 100))).bind fun t20 =>
  (dPick t17 (.bool true) t20).bind fun t21 =>
  dIf t21
    ((some (t1 : D)).bind fun t22 =>
    (dLenT tab ty82 t22).bind fun t23 =>
    (dBin tab .gtr ty3 t23 (.int .i64 100)).bind fun t24 =>
    (some (t24 : D)).bind fun t6_1 =>
    ((some (t6_1 : D)).bind fun d => (some ([] : List D)).bind fun ds => some (d :: ds)).bind fun ds => scope h p15.2 (mkRes ds))
    ((some (t0 : D)).bind fun t26 =>
  (R fn1169 [t26] p15.2).bind fun p27 =>
  (some (p27.1 : D)).bind fun t25 =>
  (dExtract 0 t25).bind fun t28 =>
  (dExtract 1 t25).bind fun t29 =>
  (dExtract 2 t25).bind fun t30 =>
  (dExtract 3 t25).bind fun t31 =>
  (some (t28 : D)).bind fun t7 =>
  (some (t29 : D)).bind fun t8 =>
  (some (t30 : D)).bind fun t9 =>
  (some (t31 : D)).bind fun t10 =>
  (some (.nils : D)).bind fun t11 =>
  (some (.int .i64 0 : D)).bind fun t12 =>
  ((loopW (F1166_L0 t1 t10) [t11, t12, .any] p27.2).bind fun r =>
    some ((unblk 0 r.1), [(nth 0 r.2.1), (nth 1 r.2.1), (nth 2 r.2.1)], r.2.2)).bind fun r_1 =>
  toEnd r_1.1 ((some (t7 : D)).bind fun t56 =>
  (some (t8 : D)).bind fun t57 =>
  (R fn1170 [t56, t57] r_1.2.2).bind fun p58 =>
  (some (p58.1 : D)).bind fun t13 =>
  (some (t10 : D)).bind fun t59 =>
  (R fn24 [t59, .int .i64 6] p58.2).bind fun p60 =>
  (some (p60.1 : D)).bind fun t14 =>
  (some ((nth 0 r_1.2.1) : D)).bind fun t61 =>
  (some (t2 : D)).bind fun t62 =>
  (R fn1172 [t61, t62] p60.2).bind fun p63 =>
  (some ((nth 0 r_1.2.1) : D)).bind fun t64 =>
  (some (t2 : D)).bind fun t65 =>
  (R fn1173 [t64, t65] p63.2).bind fun p66 =>
  (R fn1171 [p63.1, p66.1] p66.2).bind fun p67 =>
  (some (p67.1 : D)).bind fun t68 =>
  (gd t68 true (some (t13 : D))).bind fun t69 =>
  (gd t68 true (some (t14 : D))).bind fun t70 =>
  (gdW t68 true p67.2 (R fn1172 [t69, t70] p67.2)).bind fun p71 =>
  (gd t68 true (some (t13 : D))).bind fun t72 =>
  (gd t68 true (some (t14 : D))).bind fun t73 =>
  (gdW t68 true p71.2 (R fn1173 [t72, t73] p71.2)).bind fun p74 =>
  (gdW t68 true p74.2 (R fn1171 [p71.1, p74.1] p74.2)).bind fun p75 =>
  (dPick t68 p75.1 (.bool false)).bind fun t76 =>
  (some (t76 : D)).bind fun t6_2 =>
  ((some (t6_2 : D)).bind fun d => (some ([] : List D)).bind fun ds => some (d :: ds)).bind fun ds => scope h p75.2 (mkRes ds)) fun x => exEnd x (((some (t6 : D)).bind fun d => (some ([] : List D)).bind fun ds => some (d :: ds)).bind fun ds => scope h r_1.2.2 (mkRes ds)))
theorem e1166 (t0 : D) (t1 : D) (t2 : D) (h : Hp) : R fn1166 [t0, t1, t2] h = F1166 t0 t1 t2 h :=
  (run_fn (X := X) (F := Fs) (fi := i3) (by kernel_rfl) _ _).trans (by kernel_rfl)
/-- a loop: slots 11 12 35 -/
noncomputable def F1167_L0 (t8 : D) (t10 : D) (ds : List D) (h_1 : Hp) : Option Out :=
    (some ((nth 0 ds) : D)).bind fun t34 =>
    (dBin tab .gtr ty3 t34 (.int .i64 0)).bind fun t35 =>
    dIf t35
      ((some (t8 : D)).bind fun t38 =>
    (some ((nth 0 ds) : D)).bind fun t39 =>
    (dBin tab .add ty3 t39 (.int .i64 1)).bind fun t40 =>
    (R fn24 [t38, t40] h_1).bind fun p41 =>
    (some (p41.1 : D)).bind fun t12 =>
    (some (t10 : D)).bind fun t42 =>
    (some ((nth 0 ds) : D)).bind fun t43 =>
    (some (t10 : D)).bind fun t44 =>
    (some (t12 : D)).bind fun t45 =>
    (some (t10 : D)).bind fun t46 =>
    (some (t12 : D)).bind fun t47 =>
    (dIndexAddr tab ty1144 t46 t47).bind fun t48 =>
    (dLoad tab p41.2 ty1146 t48).bind fun t49 =>
    (some (t10 : D)).bind fun t50 =>
    (some ((nth 0 ds) : D)).bind fun t51 =>
    (dIndexAddr tab ty1144 t50 t51).bind fun t52 =>
    (dLoad tab p41.2 ty1146 t52).bind fun t53 =>
    (dIndexAddr tab ty1144 t42 t43).bind fun t54 =>
    ((dStore tab p41.2 ty1146 t54 t49).bind fun h' => some ((.und : D), h')).bind fun p913 =>
    (dIndexAddr tab ty1144 t44 t45).bind fun t55 =>
    ((dStore tab p913.2 ty1146 t55 t53).bind fun h' => some ((.und : D), h')).bind fun p915 =>
    (some ((nth 0 ds) : D)).bind fun t36 =>
    (dBin tab .sub ty3 t36 (.int .i64 1)).bind fun t37 =>
    (some (t37 : D)).bind fun t11_1 =>
    some (.nrm, [t11_1, t12, t35], p915.2))
      (some ((.ext 0), [(nth 0 ds), (nth 1 ds), t35], h_1))
/-- a loop: slots 4 16 103 121 -/
noncomputable def F1167_L1 (t15 : D) (ds_1 : List D) (h_2 : Hp) : Option Out :=
    (some ((nth 1 ds_1) : D)).bind fun t100 =>
    (some (t15 : D)).bind fun t101 =>
    (dLenT tab ty1144 t101).bind fun t102 =>
    (dBin tab .lss ty3 t100 t102).bind fun t103 =>
    dIf t103
      ((some (t15 : D)).bind fun t106 =>
    (some ((nth 1 ds_1) : D)).bind fun t107 =>
    (dIndexAddr tab ty1144 t106 t107).bind fun t108 =>
    (dFieldAddr tab ty1146 1 t108).bind fun t109 =>
    (dLoad tab h_2 ty82 t109).bind fun t110 =>
    (dIndexAddr tab ty82 t110 (.int .i64 0)).bind fun t111 =>
    (dLoad tab h_2 ty3 t111).bind fun t112 =>
    (some (t15 : D)).bind fun t113 =>
    (some ((nth 1 ds_1) : D)).bind fun t114 =>
    (dBin tab .sub ty3 t114 (.int .i64 1)).bind fun t115 =>
    (dIndexAddr tab ty1144 t113 t115).bind fun t116 =>
    (dFieldAddr tab ty1146 1 t116).bind fun t117 =>
    (dLoad tab h_2 ty82 t117).bind fun t118 =>
    (dIndexAddr tab ty82 t118 (.int .i64 0)).bind fun t119 =>
    (dLoad tab h_2 ty3 t119).bind fun t120 =>
    (dBin tab .gtr ty3 t112 t120).bind fun t121 =>
    dIf t121
      ((some (.bool false : D)).bind fun t4_3 =>
      some (.ret, [t4_3, (nth 1 ds_1), t103, t121], h_2))
      ((some ((nth 1 ds_1) : D)).bind fun t104 =>
    (dBin tab .add ty3 t104 (.int .i64 1)).bind fun t105 =>
    (some (t105 : D)).bind fun t16_1 =>
    some (.nrm, [(nth 0 ds_1), t16_1, t103, t121], h_2)))
      (some ((.ext 2), [(nth 0 ds_1), (nth 1 ds_1), t103, (nth 3 ds_1)], h_2))
noncomputable def F1167 (t0 : D) (t1 : D) (h : Hp) : Option (D × Hp) :=
  (some (.bool false : D)).bind fun t4 =>
  (R fn1168 [] h).bind fun p17 =>
  (dUn .not p17.1).bind fun t18 =>
  dIf t18
    ((some (.bool false : D)).bind fun t4_1 =>
    ((some (t4_1 : D)).bind fun d => (some ([] : List D)).bind fun ds => some (d :: ds)).bind fun ds => scope h p17.2 (mkRes ds))
    ((some (t0 : D)).bind fun t20 =>
  (R fn1169 [t20] p17.2).bind fun p21 =>
  (some (p21.1 : D)).bind fun t19 =>
  (dExtract 0 t19).bind fun t22 =>
  (dExtract 1 t19).bind fun t23 =>
  (dExtract 2 t19).bind fun t24 =>
  (dExtract 3 t19).bind fun t25 =>
  (some (t22 : D)).bind fun t5 =>
  (some (t23 : D)).bind fun t6 =>
  (some (t24 : D)).bind fun t7 =>
  (some (t25 : D)).bind fun t8 =>
  (some (t5 : D)).bind fun t26 =>
  (some (t6 : D)).bind fun t27 =>
  (R fn1170 [t26, t27] p21.2).bind fun p28 =>
  (some (p28.1 : D)).bind fun t9 =>
  (some (t9 : D)).bind fun t29 =>
  (dAppend tab p28.2 ty1144 ty1144 (.nils) t29).bind fun p30 =>
  (some (p30.1 : D)).bind fun t10 =>
  (some (t10 : D)).bind fun t31 =>
  (dLenT tab ty1144 t31).bind fun t32 =>
  (dBin tab .sub ty3 t32 (.int .i64 1)).bind fun t33 =>
  (some (t33 : D)).bind fun t11 =>
  ((loopW (F1167_L0 t8 t10) [t11, .any, .any] p30.2).bind fun r =>
    some ((unblk 0 r.1), [(nth 0 r.2.1), (nth 1 r.2.1), (nth 2 r.2.1)], r.2.2)).bind fun r_1 =>
  toEnd r_1.1 ((some (t1 : D)).bind fun t56 =>
  (dConv tab ty5 ty3 t56).bind fun t57 =>
  (dBin tab .rem ty3 t57 (.int .i64 8)).bind fun t58 =>
  (some (t58 : D)).bind fun t13 =>
  (some (t10 : D)).bind fun t59 =>
  (some (t13 : D)).bind fun t60 =>
  (R fn1172 [t59, t60] r_1.2.2).bind fun p61 =>
  (some (t9 : D)).bind fun t62 =>
  (some (t13 : D)).bind fun t63 =>
  (dBin tab .add ty3 t63 (.int .i64 1)).bind fun t64 =>
  (R fn1172 [t62, t64] p61.2).bind fun p65 =>
  (some (p61.1 : D)).bind fun t14 =>
  (some (p65.1 : D)).bind fun t15 =>
  (some (t14 : D)).bind fun t66 =>
  (dLenT tab ty1144 t66).bind fun t67 =>
  (some (t13 : D)).bind fun t68 =>
  (some (t9 : D)).bind fun t69 =>
  (dLenT tab ty1144 t69).bind fun t70 =>
  (dMin t68 t70).bind fun t71 =>
  (dBin tab .neq ty3 t67 t71).bind fun t72 =>
  (some (t72 : D)).bind fun t73 =>
  (gd t73 false (some (t15 : D))).bind fun t74 =>
  (gd t73 false (dLenT tab ty1144 t74)).bind fun t75 =>
  (gd t73 false (some (t13 : D))).bind fun t76 =>
  (gd t73 false (dBin tab .add ty3 t76 (.int .i64 1))).bind fun t77 =>
  (gd t73 false (some (t9 : D))).bind fun t78 =>
  (gd t73 false (dLenT tab ty1144 t78)).bind fun t79 =>
  (gd t73 false (dMin t77 t79)).bind fun t80 =>
  (gd t73 false (dBin tab .neq ty3 t75 t80)).bind fun t81 =>
  (dPick t73 (.bool true) t81).bind fun t82 =>
  (some (t82 : D)).bind fun t83 =>
  (gd t83 false (some (t14 : D))).bind fun t84 =>
  (gd t83 false (some (t15 : D))).bind fun t85 =>
  (gd t83 false (some (t14 : D))).bind fun t86 =>
  (gd t83 false (dLenT tab ty1144 t86)).bind fun t87 =>
  (gd t83 false (dSliceAt tab ty1144 false true false [t85, t87])).bind fun t88 =>
  (gdW t83 false p65.2 (R fn1171 [t84, t88] p65.2)).bind fun p89 =>
  (gd t83 false (dUn .not p89.1)).bind fun t90 =>
  (dPick t83 (.bool true) t90).bind fun t91 =>
  (some (t91 : D)).bind fun t92 =>
  (gd t92 false (some (t14 : D))).bind fun t93 =>
  (gd t92 false (some (t9 : D))).bind fun t94 =>
  (gd t92 false (some (t13 : D))).bind fun t95 =>
  (gdW t92 false p89.2 (R fn1172 [t94, t95] p89.2)).bind fun p96 =>
  (gdW t92 false p96.2 (R fn1171 [t93, p96.1] p96.2)).bind fun p97 =>
  (gd t92 false (dUn .not p97.1)).bind fun t98 =>
  (dPick t92 (.bool true) t98).bind fun t99 =>
  dIf t99
    ((some (.bool false : D)).bind fun t4_2 =>
    ((some (t4_2 : D)).bind fun d => (some ([] : List D)).bind fun ds => some (d :: ds)).bind fun ds => scope h p97.2 (mkRes ds))
    ((some (.int .i64 1 : D)).bind fun t16 =>
  ((loopW (F1167_L1 t15) [t4, t16, .any, .any] p97.2).bind fun r_2 =>
    some ((unblk 2 r_2.1), [(nth 0 r_2.2.1), (nth 1 r_2.2.1), (nth 2 r_2.2.1), (nth 3 r_2.2.1)], r_2.2.2)).bind fun r_3 =>
  toEnd r_3.1 ((some (.bool true : D)).bind fun t4_4 =>
  ((some (t4_4 : D)).bind fun d => (some ([] : List D)).bind fun ds => some (d :: ds)).bind fun ds => scope h r_3.2.2 (mkRes ds)) fun x_1 => exEnd x_1 (((some ((nth 0 r_3.2.1) : D)).bind fun d => (some ([] : List D)).bind fun ds => some (d :: ds)).bind fun ds => scope h r_3.2.2 (mkRes ds)))) fun x => exEnd x (((some (t4 : D)).bind fun d => (some ([] : List D)).bind fun ds => some (d :: ds)).bind fun ds => scope h r_1.2.2 (mkRes ds)))
theorem e1167 (t0 : D) (t1 : D) (h : Hp) : R fn1167 [t0, t1] h = F1167 t0 t1 h :=
  (run_fn (X := X) (F := Fs) (fi := i4) (by kernel_rfl) _ _).trans (by kernel_rfl)
noncomputable def F1168 (h : Hp) : Option (D × Hp) :=
  (some (.bool false : D)).bind fun t0 =>
  (pLitF tab ty82 1 [0] [.int .i64 1]).bind fun t2 =>
  (dBuild tab ty1146 [1] [t2]).bind fun t3 =>
  (pLitF tab ty98 1 [0] [.str [98]]).bind fun t4 =>
  (pLitF tab ty82 1 [0] [.int .i64 2]).bind fun t5 =>
  (dBuild tab ty1146 [0, 1] [t4, t5]).bind fun t6 =>
  (pLitF tab ty1144 2 [0, 1] [t3, t6]).bind fun t7 =>
  (R fn1172 [t7, .int .i64 1] h).bind fun p8 =>
  (some (p8.1 : D)).bind fun t1 =>
  (some (t1 : D)).bind fun t9 =>
  (dLenT tab ty1144 t9).bind fun t10 =>
  (dBin tab .eql ty3 t10 (.int .i64 1)).bind fun t11 =>
  (some (t11 : D)).bind fun t12 =>
  (gd t12 true (some (t1 : D))).bind fun t13 =>
  (gd t12 true (dIndexAddr tab ty1144 t13 (.int .i64 0))).bind fun t14 =>
  (gd t12 true (dFieldAddr tab ty1146 1 t14)).bind fun t15 =>
  (gd t12 true (dLoad tab p8.2 ty82 t15)).bind fun t16 =>
  (gd t12 true (dLenT tab ty82 t16)).bind fun t17 =>
  (gd t12 true (dBin tab .eql ty3 t17 (.int .i64 1))).bind fun t18 =>
  (dPick t12 t18 (.bool false)).bind fun t19 =>
  (some (t19 : D)).bind fun t20 =>
  (gd t20 true (some (t1 : D))).bind fun t21 =>
  (gd t20 true (dIndexAddr tab ty1144 t21 (.int .i64 0))).bind fun t22 =>
  (gd t20 true (dFieldAddr tab ty1146 1 t22)).bind fun t23 =>
  (gd t20 true (dLoad tab p8.2 ty82 t23)).bind fun t24 =>
  (gd t20 true (dIndexAddr tab ty82 t24 (.int .i64 0))).bind fun t25 =>
  (gd t20 true (dLoad tab p8.2 ty3 t25)).bind fun t26 =>
  (gd t20 true (dBin tab .eql ty3 t26 (.int .i64 2))).bind fun t27 =>
  (dPick t20 t27 (.bool false)).bind fun t28 =>
  (some (t28 : D)).bind fun t0_1 =>
  ((some (t0_1 : D)).bind fun d => (some ([] : List D)).bind fun ds => some (d :: ds)).bind fun ds => some (mkRes ds, p8.2)
theorem e1168 (h : Hp) : R fn1168 [] h = F1168 h :=
  (run_fn (X := X) (F := Fs) (fi := i5) (by kernel_rfl) _ _).trans (by kernel_rfl)
noncomputable def F1169 (t0 : D) (h : Hp) : Option (D × Hp) :=
  (some (.nils : D)).bind fun t2 =>
  (some (.nils : D)).bind fun t3 =>
  (some (.int .i64 0 : D)).bind fun t4 =>
  (some (.nilp : D)).bind fun t5 =>
  (some (t0 : D)).bind fun t7 =>
  (R fn44 [t7, .int .i64 500] h).bind fun p8 =>
  (some (p8.1 : D)).bind fun t6 =>
  (some (t6 : D)).bind fun t9 =>
  (R fn1174 [t9] p8.2).bind fun p10 =>
  (some (t6 : D)).bind fun t11 =>
  (R fn48 [t11, .int .i64 7] p10.2).bind fun p12 =>
  (some (t6 : D)).bind fun t13 =>
  (R fn24 [t13, .int .i64 5] p12.2).bind fun p14 =>
  (dBin tab .add ty3 (.int .i64 1) p14.1).bind fun t15 =>
  (some (t6 : D)).bind fun t16 =>
  (some (p10.1 : D)).bind fun t2_1 =>
  (some (p12.1 : D)).bind fun t3_1 =>
  (some (t15 : D)).bind fun t4_1 =>
  (some (t16 : D)).bind fun t5_1 =>
  ((some (t2_1 : D)).bind fun d => ((some (t3_1 : D)).bind fun d => ((some (t4_1 : D)).bind fun d => ((some (t5_1 : D)).bind fun d => (some ([] : List D)).bind fun ds => some (d :: ds)).bind fun ds => some (d :: ds)).bind fun ds => some (d :: ds)).bind fun ds => some (d :: ds)).bind fun ds => some (mkRes ds, p14.2)
theorem e1169 (t0 : D) (h : Hp) : R fn1169 [t0] h = F1169 t0 h :=
  (run_fn (X := X) (F := Fs) (fi := i6) (by kernel_rfl) _ _).trans (by kernel_rfl)
noncomputable def F102 (t0 : D) (h : Hp) : Option (D × Hp) :=
  (some (.str [] : D)).bind fun t2 =>
  (pLitF tab ty98 14 [0, 1, 2, 3, 4, 5, 6, 7, 8, 9, 10, 11, 12, 13] [.str [103, 101, 116], .str [101, 114, 114, 111, 114], .str [119, 97, 114, 110], .str [97, 49], .str [117, 115, 101, 114, 95, 55], .str [120], .str [84, 105, 109, 101, 111, 117, 116], .str [50, 48, 48], .str [71, 69, 84], .str [101, 114, 114, 111], .str [122], .str [], .str [255], .str [97, 46, 98]]).bind fun t4 =>
  (some (t4 : D)).bind fun t3 =>
  (some (t3 : D)).bind fun t5 =>
  (some (t0 : D)).bind fun t6 =>
  (some (t3 : D)).bind fun t7 =>
  (dLenT tab ty98 t7).bind fun t8 =>
  (R fn24 [t6, t8] h).bind fun p9 =>
  (dIndexAddr tab ty98 t5 p9.1).bind fun t10 =>
  (dLoad tab p9.2 ty9 t10).bind fun t11 =>
  (some (t11 : D)).bind fun t2_1 =>
  ((some (t2_1 : D)).bind fun d => (some ([] : List D)).bind fun ds => some (d :: ds)).bind fun ds => some (mkRes ds, p9.2)
theorem e102 (t0 : D) (h : Hp) : R fn102 [t0] h = F102 t0 h :=
  (run_fn (X := X) (F := Fs) (fi := i7) (by kernel_rfl) _ _).trans (by kernel_rfl)
noncomputable def F47 (t0 : D) (h : Hp) : Option (D × Hp) :=
  (some (.int .i64 0 : D)).bind fun t2 =>
  (some (t0 : D)).bind fun t4 =>
  (R fn24 [t4, .int .i64 16] h).bind fun p5 =>
  (some (p5.1 : D)).bind fun t3 =>
  (some (t3 : D)).bind fun t6 =>
  (dBin tab .eql ty3 t6 (.int .i64 15)).bind fun t7 =>
  dIf t7
    ((pLitF tab ty82 6 [0, 1, 2, 3, 4, 5] [.int .i64 9223372036854775807, .int .i64 (-9223372036854775808), .int .i64 4294967296, .int .i64 (-2147483648), .int .i64 253402300799999, .int .i64 253402300800000]).bind fun t8 =>
    (some (t0 : D)).bind fun t9 =>
    (R fn24 [t9, .int .i64 6] p5.2).bind fun p10 =>
    (dIndexAddr tab ty82 t8 p10.1).bind fun t11 =>
    (dLoad tab p10.2 ty3 t11).bind fun t12 =>
    (some (t12 : D)).bind fun t2_1 =>
    ((some (t2_1 : D)).bind fun d => (some ([] : List D)).bind fun ds => some (d :: ds)).bind fun ds => some (mkRes ds, p10.2))
    ((some (t0 : D)).bind fun t13 =>
  (R fn24 [t13, .int .i64 256] p5.2).bind fun p14 =>
  (some (t0 : D)).bind fun t15 =>
  (R fn24 [t15, .int .i64 6] p14.2).bind fun p16 =>
  (dBin tab .shr ty3 p14.1 p16.1).bind fun t17 =>
  (some (t3 : D)).bind fun t18 =>
  (dBin tab .quo ty3 t18 (.int .i64 8)).bind fun t19 =>
  (dBin tab .sub ty3 t17 t19).bind fun t20 =>
  (some (t20 : D)).bind fun t2_2 =>
  ((some (t2_2 : D)).bind fun d => (some ([] : List D)).bind fun ds => some (d :: ds)).bind fun ds => some (mkRes ds, p16.2))
theorem e47 (t0 : D) (h : Hp) : R fn47 [t0] h = F47 t0 h :=
  (run_fn (X := X) (F := Fs) (fi := i8) (by kernel_rfl) _ _).trans (by kernel_rfl)
noncomputable def F1170 (t0 : D) (t1 : D) (h : Hp) : Option (D × Hp) :=
  (some (.nils : D)).bind fun t4 =>
  (dBuild tab ty1153 [] []).bind fun t6 =>
  (pLitF tab ty1154 1 [0] [t6]).bind fun t7 =>
  (some (t7 : D)).bind fun t5 =>
  (some (t5 : D)).bind fun t8 =>
  (some (t0 : D)).bind fun t9 =>
  (some (t5 : D)).bind fun t10 =>
  (some (t1 : D)).bind fun t11 =>
  (R fn1176 [t9, t10, t11] h).bind fun p12 =>
  (R fn1175 [t8, p12.1] p12.2).bind fun p13 =>
  (some (p13.1 : D)).bind fun t4_1 =>
  ((some (t4_1 : D)).bind fun d => (some ([] : List D)).bind fun ds => some (d :: ds)).bind fun ds => some (mkRes ds, p13.2)
theorem e1170 (t0 : D) (t1 : D) (h : Hp) : R fn1170 [t0, t1] h = F1170 t0 t1 h :=
  (run_fn (X := X) (F := Fs) (fi := i9) (by kernel_rfl) _ _).trans (by kernel_rfl)
noncomputable def F24 (t0 : D) (t1 : D) (h : Hp) : Option (D × Hp) :=
  (some (.int .i64 0 : D)).bind fun t4 =>
  (some (t0 : D)).bind fun t6 =>
  (R fn57 [t6] h).bind fun p7 =>
  (dUn .not p7.1).bind fun t8 =>
  (some (t8 : D)).bind fun t9 =>
  (gd t9 false (some (t1 : D))).bind fun t10 =>
  (gd t9 false (dBin tab .lss ty3 t10 (.int .i64 1))).bind fun t11 =>
  (dPick t9 (.bool true) t11).bind fun t12 =>
  dIf t12
    ((some (.int .i64 0 : D)).bind fun t4_1 =>
    ((some (t4_1 : D)).bind fun d => (some ([] : List D)).bind fun ds => some (d :: ds)).bind fun ds => some (mkRes ds, p7.2))
    ((some (t0 : D)).bind fun t13 =>
  (dNilCheck tab t13).bind fun t14 =>
  (dFieldAddr tab ty101 0 t14).bind fun t15 =>
  (dLoad tab p7.2 ty22 t15).bind fun t16 =>
  (some (t0 : D)).bind fun t17 =>
  (dNilCheck tab t17).bind fun t18 =>
  (dFieldAddr tab ty101 1 t18).bind fun t19 =>
  (dLoad tab p7.2 ty3 t19).bind fun t20 =>
  (dIndexAddr tab ty22 t16 t20).bind fun t21 =>
  (dLoad tab p7.2 ty5 t21).bind fun t22 =>
  (dConv tab ty5 ty3 t22).bind fun t23 =>
  (some (t23 : D)).bind fun t5 =>
  (some (t0 : D)).bind fun t24 =>
  (dNilCheck tab t24).bind fun t25 =>
  (dFieldAddr tab ty101 1 t25).bind fun t26 =>
  (dLoad tab p7.2 ty3 t26).bind fun t27 =>
  (dBin tab .add ty3 t27 (.int .i64 1)).bind fun t28 =>
  (dNilCheck tab t24).bind fun t29 =>
  (dFieldAddr tab ty101 1 t29).bind fun t30 =>
  ((dStore tab p7.2 ty3 t30 t28).bind fun h' => some ((.und : D), h')).bind fun p907 =>
  (some (t5 : D)).bind fun t31 =>
  (some (t1 : D)).bind fun t32 =>
  (dBin tab .mul ty3 t31 t32).bind fun t33 =>
  (dBin tab .quo ty3 t33 (.int .i64 256)).bind fun t34 =>
  (some (t34 : D)).bind fun t4_2 =>
  ((some (t4_2 : D)).bind fun d => (some ([] : List D)).bind fun ds => some (d :: ds)).bind fun ds => some (mkRes ds, p907.2))
theorem e24 (t0 : D) (t1 : D) (h : Hp) : R fn24 [t0, t1] h = F24 t0 t1 h :=
  (run_fn (X := X) (F := Fs) (fi := i10) (by kernel_rfl) _ _).trans (by kernel_rfl)
/-- a loop: slots 4 5 14 55 -/
noncomputable def F1171_L0 (t0 : D) (t1 : D) (ds : List D) (h_1 : Hp) : Option Out :=
    (some ((nth 1 ds) : D)).bind fun t11 =>
    (some (t0 : D)).bind fun t12 =>
    (dLenT tab ty1144 t12).bind fun t13 =>
    (dBin tab .lss ty3 t11 t13).bind fun t14 =>
    dIf t14
      ((some (t0 : D)).bind fun t17 =>
    (some ((nth 1 ds) : D)).bind fun t18 =>
    (dIndexAddr tab ty1144 t17 t18).bind fun t19 =>
    (dFieldAddr tab ty1146 0 t19).bind fun t20 =>
    (dLoad tab h_1 ty98 t20).bind fun t21 =>
    (some (t1 : D)).bind fun t22 =>
    (some ((nth 1 ds) : D)).bind fun t23 =>
    (dIndexAddr tab ty1144 t22 t23).bind fun t24 =>
    (dFieldAddr tab ty1146 0 t24).bind fun t25 =>
    (dLoad tab h_1 ty98 t25).bind fun t26 =>
    (R fn1177 [t21, t26] h_1).bind fun p27 =>
    (dUn .not p27.1).bind fun t28 =>
    (some (t28 : D)).bind fun t29 =>
    (gd t29 false (some (t0 : D))).bind fun t30 =>
    (gd t29 false (some ((nth 1 ds) : D))).bind fun t31 =>
    (gd t29 false (dIndexAddr tab ty1144 t30 t31)).bind fun t32 =>
    (gd t29 false (dFieldAddr tab ty1146 1 t32)).bind fun t33 =>
    (gd t29 false (dLoad tab p27.2 ty82 t33)).bind fun t34 =>
    (gd t29 false (some (t1 : D))).bind fun t35 =>
    (gd t29 false (some ((nth 1 ds) : D))).bind fun t36 =>
    (gd t29 false (dIndexAddr tab ty1144 t35 t36)).bind fun t37 =>
    (gd t29 false (dFieldAddr tab ty1146 1 t37)).bind fun t38 =>
    (gd t29 false (dLoad tab p27.2 ty82 t38)).bind fun t39 =>
    (gdW t29 false p27.2 (R fn1178 [t34, t39] p27.2)).bind fun p40 =>
    (gd t29 false (dUn .not p40.1)).bind fun t41 =>
    (dPick t29 (.bool true) t41).bind fun t42 =>
    (some (t42 : D)).bind fun t43 =>
    (gd t43 false (some (t0 : D))).bind fun t44 =>
    (gd t43 false (some ((nth 1 ds) : D))).bind fun t45 =>
    (gd t43 false (dIndexAddr tab ty1144 t44 t45)).bind fun t46 =>
    (gd t43 false (dFieldAddr tab ty1146 2 t46)).bind fun t47 =>
    (gd t43 false (dLoad tab p40.2 ty3 t47)).bind fun t48 =>
    (gd t43 false (some (t1 : D))).bind fun t49 =>
    (gd t43 false (some ((nth 1 ds) : D))).bind fun t50 =>
    (gd t43 false (dIndexAddr tab ty1144 t49 t50)).bind fun t51 =>
    (gd t43 false (dFieldAddr tab ty1146 2 t51)).bind fun t52 =>
    (gd t43 false (dLoad tab p40.2 ty3 t52)).bind fun t53 =>
    (gd t43 false (dBin tab .neq ty3 t48 t53)).bind fun t54 =>
    (dPick t43 (.bool true) t54).bind fun t55 =>
    dIf t55
      ((some (.bool false : D)).bind fun t4_2 =>
      some (.ret, [t4_2, (nth 1 ds), t14, t55], p40.2))
      ((some ((nth 1 ds) : D)).bind fun t15 =>
    (dBin tab .add ty3 t15 (.int .i64 1)).bind fun t16 =>
    (some (t16 : D)).bind fun t5_1 =>
    some (.nrm, [(nth 0 ds), t5_1, t14, t55], p40.2)))
      (some ((.ext 0), [(nth 0 ds), (nth 1 ds), t14, (nth 3 ds)], h_1))
noncomputable def F1171 (t0 : D) (t1 : D) (h : Hp) : Option (D × Hp) :=
  (some (.bool false : D)).bind fun t4 =>
  (some (t0 : D)).bind fun t6 =>
  (dLenT tab ty1144 t6).bind fun t7 =>
  (some (t1 : D)).bind fun t8 =>
  (dLenT tab ty1144 t8).bind fun t9 =>
  (dBin tab .neq ty3 t7 t9).bind fun t10 =>
  dIf t10
    ((some (.bool false : D)).bind fun t4_1 =>
    ((some (t4_1 : D)).bind fun d => (some ([] : List D)).bind fun ds => some (d :: ds)).bind fun ds => some (mkRes ds, h))
    ((some (.int .i64 0 : D)).bind fun t5 =>
  ((loopW (F1171_L0 t0 t1) [t4, t5, .any, .any] h).bind fun r =>
    some ((unblk 0 r.1), [(nth 0 r.2.1), (nth 1 r.2.1), (nth 2 r.2.1), (nth 3 r.2.1)], r.2.2)).bind fun r_1 =>
  toEnd r_1.1 ((some (.bool true : D)).bind fun t4_3 =>
  ((some (t4_3 : D)).bind fun d => (some ([] : List D)).bind fun ds => some (d :: ds)).bind fun ds => some (mkRes ds, r_1.2.2)) fun x => exEnd x (((some ((nth 0 r_1.2.1) : D)).bind fun d => (some ([] : List D)).bind fun ds => some (d :: ds)).bind fun ds => some (mkRes ds, r_1.2.2)))
theorem e1171 (t0 : D) (t1 : D) (h : Hp) : R fn1171 [t0, t1] h = F1171 t0 t1 h :=
  (run_fn (X := X) (F := Fs) (fi := i11) (by kernel_rfl) _ _).trans (by kernel_rfl)
noncomputable def F1172 (t0 : D) (t1 : D) (h : Hp) : Option (D × Hp) :=
  (some (.nils : D)).bind fun t4 =>
  (some (t0 : D)).bind fun t6 =>
  (R fn1179 [t6] h).bind fun p7 =>
  (some (p7.1 : D)).bind fun t5 =>
  (some (t5 : D)).bind fun t8 =>
  (R fn1180 [t8, .fn (.func fn1181) [] []] p7.2).bind fun p9 =>
  (some (t5 : D)).bind fun t10 =>
  (some (t1 : D)).bind fun t11 =>
  (R fn1184 [t10, t11] p9.2).bind fun p12 =>
  (some (p12.1 : D)).bind fun t4_1 =>
  ((some (t4_1 : D)).bind fun d => (some ([] : List D)).bind fun ds => some (d :: ds)).bind fun ds => scope h p12.2 (mkRes ds)
theorem e1172 (t0 : D) (t1 : D) (h : Hp) : R fn1172 [t0, t1] h = F1172 t0 t1 h :=
  (run_fn (X := X) (F := Fs) (fi := i12) (by kernel_rfl) _ _).trans (by kernel_rfl)
/-- a loop: slots 7 69 -/
noncomputable def F1173_L1 (t0 : D) (ds : List D) (ds_1 : List D) (h_2 : Hp) : Option Out :=
    (some ((nth 0 ds_1) : D)).bind fun t17 =>
    (dBin tab .gtr ty3 t17 (.int .i64 0)).bind fun t18 =>
    (some (t18 : D)).bind fun t19 =>
    (gd t19 true (some (t0 : D))).bind fun t20 =>
    (gd t19 true (some ((nth 1 ds) : D))).bind fun t21 =>
    (gd t19 true (dIndexAddr tab ty1144 t20 t21)).bind fun t22 =>
    (gd t19 true (dFieldAddr tab ty1146 1 t22)).bind fun t23 =>
    (gd t19 true (dLoad tab h_2 ty82 t23)).bind fun t24 =>
    (gd t19 true (dIndexAddr tab ty82 t24 (.int .i64 0))).bind fun t25 =>
    (gd t19 true (dLoad tab h_2 ty3 t25)).bind fun t26 =>
    (gd t19 true (some ((nth 0 ds) : D))).bind fun t27 =>
    (gd t19 true (some ((nth 0 ds_1) : D))).bind fun t28 =>
    (gd t19 true (dBin tab .sub ty3 t28 (.int .i64 1))).bind fun t29 =>
    (gd t19 true (dIndexAddr tab ty1144 t27 t29)).bind fun t30 =>
    (gd t19 true (dFieldAddr tab ty1146 1 t30)).bind fun t31 =>
    (gd t19 true (dLoad tab h_2 ty82 t31)).bind fun t32 =>
    (gd t19 true (dIndexAddr tab ty82 t32 (.int .i64 0))).bind fun t33 =>
    (gd t19 true (dLoad tab h_2 ty3 t33)).bind fun t34 =>
    (gd t19 true (dBin tab .gtr ty3 t26 t34)).bind fun t35 =>
    (gd t19 true (some (t35 : D))).bind fun t36 =>
    (gd t36 false (some (t0 : D))).bind fun t37 =>
    (gd t36 false (some ((nth 1 ds) : D))).bind fun t38 =>
    (gd t36 false (dIndexAddr tab ty1144 t37 t38)).bind fun t39 =>
    (gd t36 false (dFieldAddr tab ty1146 1 t39)).bind fun t40 =>
    (gd t36 false (dLoad tab h_2 ty82 t40)).bind fun t41 =>
    (gd t36 false (dIndexAddr tab ty82 t41 (.int .i64 0))).bind fun t42 =>
    (gd t36 false (dLoad tab h_2 ty3 t42)).bind fun t43 =>
    (gd t36 false (some ((nth 0 ds) : D))).bind fun t44 =>
    (gd t36 false (some ((nth 0 ds_1) : D))).bind fun t45 =>
    (gd t36 false (dBin tab .sub ty3 t45 (.int .i64 1))).bind fun t46 =>
    (gd t36 false (dIndexAddr tab ty1144 t44 t46)).bind fun t47 =>
    (gd t36 false (dFieldAddr tab ty1146 1 t47)).bind fun t48 =>
    (gd t36 false (dLoad tab h_2 ty82 t48)).bind fun t49 =>
    (gd t36 false (dIndexAddr tab ty82 t49 (.int .i64 0))).bind fun t50 =>
    (gd t36 false (dLoad tab h_2 ty3 t50)).bind fun t51 =>
    (gd t36 false (dBin tab .eql ty3 t43 t51)).bind fun t52 =>
    (gd t36 false (some (t52 : D))).bind fun t53 =>
    (gd t53 true (some (t0 : D))).bind fun t54 =>
    (gd t53 true (some ((nth 1 ds) : D))).bind fun t55 =>
    (gd t53 true (dIndexAddr tab ty1144 t54 t55)).bind fun t56 =>
    (gd t53 true (dFieldAddr tab ty1146 0 t56)).bind fun t57 =>
    (gd t53 true (dLoad tab h_2 ty98 t57)).bind fun t58 =>
    (gd t53 true (some ((nth 0 ds) : D))).bind fun t59 =>
    (gd t53 true (some ((nth 0 ds_1) : D))).bind fun t60 =>
    (gd t53 true (dBin tab .sub ty3 t60 (.int .i64 1))).bind fun t61 =>
    (gd t53 true (dIndexAddr tab ty1144 t59 t61)).bind fun t62 =>
    (gd t53 true (dFieldAddr tab ty1146 0 t62)).bind fun t63 =>
    (gd t53 true (dLoad tab h_2 ty98 t63)).bind fun t64 =>
    (gdW t53 true h_2 (R fn1185 [t58, t64] h_2)).bind fun p65 =>
    (gd t53 true (dBin tab .lss ty3 p65.1 (.int .i64 0))).bind fun t66 =>
    (gd t36 false (dPick t53 t66 (.bool false))).bind fun t67 =>
    (gd t19 true (dPick t36 (.bool true) t67)).bind fun t68 =>
    (dPick t19 t68 (.bool false)).bind fun t69 =>
    dIf t69
      ((some ((nth 0 ds_1) : D)).bind fun t70 =>
    (dBin tab .sub ty3 t70 (.int .i64 1)).bind fun t71 =>
    (some (t71 : D)).bind fun t7_1 =>
    some (.nrm, [t7_1, t69], p65.2))
      (some ((.ext 2), [(nth 0 ds_1), t69], p65.2))
/-- a loop: slots 5 6 7 8 12 69 -/
noncomputable def F1173_L0 (t0 : D) (ds : List D) (h_1 : Hp) : Option Out :=
    (some ((nth 1 ds) : D)).bind fun t9 =>
    (some (t0 : D)).bind fun t10 =>
    (dLenT tab ty1144 t10).bind fun t11 =>
    (dBin tab .lss ty3 t9 t11).bind fun t12 =>
    dIf t12
      ((some ((nth 0 ds) : D)).bind fun t15 =>
    (dLenT tab ty1144 t15).bind fun t16 =>
    (some (t16 : D)).bind fun t7 =>
    ((loopW (F1173_L1 t0 ds) [t7, (nth 5 ds)] h_1).bind fun r_1 =>
      some ((unblk 2 r_1.1), [(nth 0 r_1.2.1), (nth 1 r_1.2.1)], r_1.2.2)).bind fun r_2 =>
    toEnd r_2.1 ((some ((nth 0 ds) : D)).bind fun t72 =>
    (some ((nth 0 r_2.2.1) : D)).bind fun t73 =>
    (dSliceAt tab ty1144 false true false [t72, t73]).bind fun t74 =>
    (dAppend tab r_2.2.2 ty1144 ty1144 (.nils) t74).bind fun p75 =>
    (some (p75.1 : D)).bind fun t8 =>
    (some (t8 : D)).bind fun t76 =>
    (some (t0 : D)).bind fun t77 =>
    (some ((nth 1 ds) : D)).bind fun t78 =>
    (dIndexAddr tab ty1144 t77 t78).bind fun t79 =>
    (dLoad tab p75.2 ty1146 t79).bind fun t80 =>
    (pLitF tab ty1144 1 [0] [t80]).bind fun t81 =>
    (dAppend tab p75.2 ty1144 ty1144 t76 t81).bind fun p82 =>
    (some ((nth 0 ds) : D)).bind fun t83 =>
    (some ((nth 0 r_2.2.1) : D)).bind fun t84 =>
    (dSliceAt tab ty1144 true false false [t83, t84]).bind fun t85 =>
    (dAppend tab p82.2 ty1144 ty1144 p82.1 t85).bind fun p86 =>
    (some (p86.1 : D)).bind fun t5_1 =>
    (some ((nth 1 ds) : D)).bind fun t13 =>
    (dBin tab .add ty3 t13 (.int .i64 1)).bind fun t14 =>
    (some (t14 : D)).bind fun t6_1 =>
    some (.nrm, [t5_1, t6_1, (nth 0 r_2.2.1), t8, t12, (nth 1 r_2.2.1)], p86.2)) fun x => toEnd (unblk 1 x) ((some ((nth 1 ds) : D)).bind fun t13_1 =>
    (dBin tab .add ty3 t13_1 (.int .i64 1)).bind fun t14_1 =>
    (some (t14_1 : D)).bind fun t6_2 =>
    some (.nrm, [(nth 0 ds), t6_2, (nth 0 r_2.2.1), (nth 3 ds), t12, (nth 1 r_2.2.1)], r_2.2.2)) fun x_1 => some (x_1, [(nth 0 ds), (nth 1 ds), (nth 0 r_2.2.1), (nth 3 ds), t12, (nth 1 r_2.2.1)], r_2.2.2))
      (some ((.ext 0), [(nth 0 ds), (nth 1 ds), (nth 2 ds), (nth 3 ds), t12, (nth 5 ds)], h_1))
noncomputable def F1173 (t0 : D) (t1 : D) (h : Hp) : Option (D × Hp) :=
  (some (.nils : D)).bind fun t4 =>
  (some (.nils : D)).bind fun t5 =>
  (some (.int .i64 0 : D)).bind fun t6 =>
  ((loopW (F1173_L0 t0) [t5, t6, .any, .any, .any, .any] h).bind fun r =>
    some ((unblk 0 r.1), [(nth 0 r.2.1), (nth 1 r.2.1), (nth 2 r.2.1), (nth 3 r.2.1), (nth 4 r.2.1), (nth 5 r.2.1)], r.2.2)).bind fun r_3 =>
  toEnd r_3.1 ((some ((nth 0 r_3.2.1) : D)).bind fun t87 =>
  (some (t1 : D)).bind fun t88 =>
  (dMax t88 (.int .i64 0)).bind fun t89 =>
  (some ((nth 0 r_3.2.1) : D)).bind fun t90 =>
  (dLenT tab ty1144 t90).bind fun t91 =>
  (dMin t89 t91).bind fun t92 =>
  (dSliceAt tab ty1144 false true false [t87, t92]).bind fun t93 =>
  (some (t93 : D)).bind fun t4_1 =>
  ((some (t4_1 : D)).bind fun d => (some ([] : List D)).bind fun ds => some (d :: ds)).bind fun ds => scope h r_3.2.2 (mkRes ds)) fun x_2 => exEnd x_2 (((some (t4 : D)).bind fun d => (some ([] : List D)).bind fun ds => some (d :: ds)).bind fun ds => scope h r_3.2.2 (mkRes ds))
theorem e1173 (t0 : D) (t1 : D) (h : Hp) : R fn1173 [t0, t1] h = F1173 t0 t1 h :=
  (run_fn (X := X) (F := Fs) (fi := i13) (by kernel_rfl) _ _).trans (by kernel_rfl)
noncomputable def F44 (t0 : D) (t1 : D) (h : Hp) : Option (D × Hp) :=
  (some (.nilp : D)).bind fun t4 =>
  (some (t0 : D)).bind fun t5 =>
  (some (t0 : D)).bind fun t6 =>
  (dLenT tab ty22 t6).bind fun t7 =>
  (some (t1 : D)).bind fun t8 =>
  (dMin t7 t8).bind fun t9 =>
  (dSliceAt tab ty22 false true false [t5, t9]).bind fun t10 =>
  (dBuild tab ty101 [0] [t10]).bind fun t11 =>
  (wBox ty101 2 h t11).bind fun p12 =>
  (some (p12.1 : D)).bind fun t4_1 =>
  ((some (t4_1 : D)).bind fun d => (some ([] : List D)).bind fun ds => some (d :: ds)).bind fun ds => some (mkRes ds, p12.2)
theorem e44 (t0 : D) (t1 : D) (h : Hp) : R fn44 [t0, t1] h = F44 t0 t1 h :=
  (run_fn (X := X) (F := Fs) (fi := i14) (by kernel_rfl) _ _).trans (by kernel_rfl)
noncomputable def F1174 (t0 : D) (h : Hp) : Option (D × Hp) :=
  (some (.nils : D)).bind fun t2 =>
  (pLitF tab ty98 5 [0, 1, 2, 3, 4] [.str [108, 101, 118, 101, 108], .str [64, 104, 111, 115, 116], .str [64, 115, 116, 114, 101, 97, 109], .str [99, 111, 100, 101], .str [64, 116, 114, 97, 99, 101]]).bind fun t4 =>
  (some (t0 : D)).bind fun t5 =>
  (R fn24 [t5, .int .i64 5] h).bind fun p6 =>
  (dIndexAddr tab ty98 t4 p6.1).bind fun t7 =>
  (dLoad tab p6.2 ty9 t7).bind fun t8 =>
  (pLitF tab ty98 1 [0] [t8]).bind fun t9 =>
  (some (t9 : D)).bind fun t3 =>
  (some (t0 : D)).bind fun t10 =>
  (R fn24 [t10, .int .i64 2] p6.2).bind fun p11 =>
  (dBin tab .eql ty3 p11.1 (.int .i64 1)).bind fun t12 =>
  (dIf t12
    ((some (t3 : D)).bind fun t13 =>
    (some (t0 : D)).bind fun t14 =>
    (R fn1186 [t14] p11.2).bind fun p15 =>
    (pLitF tab ty98 1 [0] [p15.1]).bind fun t16 =>
    (dAppend tab p15.2 ty98 ty98 t13 t16).bind fun p17 =>
    (some (p17.1 : D)).bind fun t3_1 =>
    some (.nrm, [t3_1], p17.2))
    (some (.nrm, [t3], p11.2))).bind fun r =>
  toEnd r.1 ((some ((nth 0 r.2.1) : D)).bind fun t18 =>
  (some (t18 : D)).bind fun t2_1 =>
  ((some (t2_1 : D)).bind fun d => (some ([] : List D)).bind fun ds => some (d :: ds)).bind fun ds => scope h r.2.2 (mkRes ds)) fun x => exEnd x (((some (t2 : D)).bind fun d => (some ([] : List D)).bind fun ds => some (d :: ds)).bind fun ds => scope h r.2.2 (mkRes ds))
theorem e1174 (t0 : D) (h : Hp) : R fn1174 [t0] h = F1174 t0 h :=
  (run_fn (X := X) (F := Fs) (fi := i15) (by kernel_rfl) _ _).trans (by kernel_rfl)
/-- a loop: slots 5 9 33 44 -/
noncomputable def F48_L2 (t7 : D) (ds_1 : List D) (ds_2 : List D) (h_3 : Hp) : Option Out :=
    (some ((nth 1 ds_2) : D)).bind fun t27 =>
    (some (t7 : D)).bind fun t28 =>
    (some ((nth 1 ds_1) : D)).bind fun t29 =>
    (dIndexAddr tab ty111 t28 t29).bind fun t30 =>
    (dLoad tab h_3 ty113 t30).bind fun t31 =>
    (dLenT tab ty113 t31).bind fun t32 =>
    (dBin tab .lss ty3 t27 t32).bind fun t33 =>
    dIf t33
      ((some (t7 : D)).bind fun t36 =>
    (some ((nth 1 ds_1) : D)).bind fun t37 =>
    (dIndexAddr tab ty111 t36 t37).bind fun t38 =>
    (dLoad tab h_3 ty113 t38).bind fun t39 =>
    (some ((nth 1 ds_2) : D)).bind fun t40 =>
    (dIndexAddr tab ty113 t39 t40).bind fun t41 =>
    (dFieldAddr tab ty74 0 t41).bind fun t42 =>
    (dLoad tab h_3 ty9 t42).bind fun t43 =>
    (dBin tab .eql ty9 t43 (.str [])).bind fun t44 =>
    (dIf t44
      ((some ((nth 0 ds_2) : D)).bind fun t45 =>
      (some (t7 : D)).bind fun t46 =>
      (some ((nth 1 ds_1) : D)).bind fun t47 =>
      (dIndexAddr tab ty111 t46 t47).bind fun t48 =>
      (dLoad tab h_3 ty113 t48).bind fun t49 =>
      (some ((nth 1 ds_2) : D)).bind fun t50 =>
      (dIndexAddr tab ty113 t49 t50).bind fun t51 =>
      (dFieldAddr tab ty74 1 t51).bind fun t52 =>
      (dLoad tab h_3 ty31 t52).bind fun t53 =>
      (R fn72 [t45, t53] h_3).bind fun p54 =>
      (some (p54.1 : D)).bind fun t5_1 =>
      some (.nrm, [t5_1], p54.2))
      (some (.nrm, [(nth 0 ds_2)], h_3))).bind fun r_3 =>
    toEnd (unblk 5 r_3.1) ((some ((nth 1 ds_2) : D)).bind fun t34 =>
    (dBin tab .add ty3 t34 (.int .i64 1)).bind fun t35 =>
    (some (t35 : D)).bind fun t9_1 =>
    some (.nrm, [(nth 0 r_3.2.1), t9_1, t33, t44], r_3.2.2)) fun x => some (x, [(nth 0 r_3.2.1), (nth 1 ds_2), t33, t44], r_3.2.2))
      (some ((.ext 4), [(nth 0 ds_2), (nth 1 ds_2), t33, (nth 3 ds_2)], h_3))
/-- a loop: slots 5 8 9 24 33 44 -/
noncomputable def F48_L1 (t7 : D) (ds_1 : List D) (h_2 : Hp) : Option Out :=
    (some ((nth 1 ds_1) : D)).bind fun t21 =>
    (some (t7 : D)).bind fun t22 =>
    (dLenT tab ty111 t22).bind fun t23 =>
    (dBin tab .lss ty3 t21 t23).bind fun t24 =>
    dIf t24
      ((some (.int .i64 0 : D)).bind fun t9 =>
    ((loopW (F48_L2 t7 ds_1) [(nth 0 ds_1), t9, (nth 4 ds_1), (nth 5 ds_1)] h_2).bind fun r_2 =>
      some ((unblk 4 r_2.1), [(nth 0 r_2.2.1), (nth 1 r_2.2.1), (nth 2 r_2.2.1), (nth 3 r_2.2.1)], r_2.2.2)).bind fun r_4 =>
    toEnd (unblk 3 r_4.1) ((some ((nth 1 ds_1) : D)).bind fun t25 =>
    (dBin tab .add ty3 t25 (.int .i64 1)).bind fun t26 =>
    (some (t26 : D)).bind fun t8_1 =>
    some (.nrm, [(nth 0 r_4.2.1), t8_1, (nth 1 r_4.2.1), t24, (nth 2 r_4.2.1), (nth 3 r_4.2.1)], r_4.2.2)) fun x_1 => some (x_1, [(nth 0 r_4.2.1), (nth 1 ds_1), (nth 1 r_4.2.1), t24, (nth 2 r_4.2.1), (nth 3 r_4.2.1)], r_4.2.2))
      (some ((.ext 2), [(nth 0 ds_1), (nth 1 ds_1), (nth 2 ds_1), t24, (nth 4 ds_1), (nth 5 ds_1)], h_2))
/-- a loop: slots 5 6 7 8 9 14 24 33 44 -/
noncomputable def F48_L0 (t0 : D) (t1 : D) (ds : List D) (h_1 : Hp) : Option Out :=
    (some ((nth 1 ds) : D)).bind fun t10 =>
    (some (t0 : D)).bind fun t11 =>
    (R fn24 [t11, .int .i64 2] h_1).bind fun p12 =>
    (dBin tab .add ty3 (.int .i64 1) p12.1).bind fun t13 =>
    (dBin tab .leq ty3 t10 t13).bind fun t14 =>
    dIf t14
      ((some (t0 : D)).bind fun t17 =>
    (some ((nth 1 ds) : D)).bind fun t18 =>
    (some (t1 : D)).bind fun t19 =>
    (R fn71 [t17, t18, t19] p12.2).bind fun p20 =>
    (some (p20.1 : D)).bind fun t7 =>
    (some (.int .i64 0 : D)).bind fun t8 =>
    ((loopW (F48_L1 t7) [(nth 0 ds), t8, (nth 4 ds), (nth 6 ds), (nth 7 ds), (nth 8 ds)] p20.2).bind fun r_1 =>
      some ((unblk 2 r_1.1), [(nth 0 r_1.2.1), (nth 1 r_1.2.1), (nth 2 r_1.2.1), (nth 3 r_1.2.1), (nth 4 r_1.2.1), (nth 5 r_1.2.1)], r_1.2.2)).bind fun r_5 =>
    toEnd (unblk 1 r_5.1) ((some ((nth 1 ds) : D)).bind fun t15 =>
    (dBin tab .add ty3 t15 (.int .i64 1)).bind fun t16 =>
    (some (t16 : D)).bind fun t6_1 =>
    some (.nrm, [(nth 0 r_5.2.1), t6_1, t7, (nth 1 r_5.2.1), (nth 2 r_5.2.1), t14, (nth 3 r_5.2.1), (nth 4 r_5.2.1), (nth 5 r_5.2.1)], r_5.2.2)) fun x_2 => some (x_2, [(nth 0 r_5.2.1), (nth 1 ds), t7, (nth 1 r_5.2.1), (nth 2 r_5.2.1), t14, (nth 3 r_5.2.1), (nth 4 r_5.2.1), (nth 5 r_5.2.1)], r_5.2.2))
      (some ((.ext 0), [(nth 0 ds), (nth 1 ds), (nth 2 ds), (nth 3 ds), (nth 4 ds), t14, (nth 6 ds), (nth 7 ds), (nth 8 ds)], p12.2))
noncomputable def F48 (t0 : D) (t1 : D) (h : Hp) : Option (D × Hp) :=
  (some (.nils : D)).bind fun t4 =>
  (some (.nils : D)).bind fun t5 =>
  (some (.int .i64 1 : D)).bind fun t6 =>
  ((loopW (F48_L0 t0 t1) [t5, t6, .any, .any, .any, .any, .any, .any, .any] h).bind fun r =>
    some ((unblk 0 r.1), [(nth 0 r.2.1), (nth 1 r.2.1), (nth 2 r.2.1), (nth 3 r.2.1), (nth 4 r.2.1), (nth 5 r.2.1), (nth 6 r.2.1), (nth 7 r.2.1), (nth 8 r.2.1)], r.2.2)).bind fun r_6 =>
  toEnd r_6.1 ((some ((nth 0 r_6.2.1) : D)).bind fun t55 =>
  (some (t55 : D)).bind fun t4_1 =>
  ((some (t4_1 : D)).bind fun d => (some ([] : List D)).bind fun ds => some (d :: ds)).bind fun ds => some (mkRes ds, r_6.2.2)) fun x_3 => exEnd x_3 (((some (t4 : D)).bind fun d => (some ([] : List D)).bind fun ds => some (d :: ds)).bind fun ds => some (mkRes ds, r_6.2.2))
theorem e48 (t0 : D) (t1 : D) (h : Hp) : R fn48 [t0, t1] h = F48 t0 t1 h :=
  (run_fn (X := X) (F := Fs) (fi := i16) (by kernel_rfl) _ _).trans (by kernel_rfl)
/-- a loop: slots 5 6 10 -/
noncomputable def F1175_L0 (t1 : D) (ds : List D) (h_1 : Hp) : Option Out :=
    (some ((nth 1 ds) : D)).bind fun t7 =>
    (some (t1 : D)).bind fun t8 =>
    (dLenT tab ty1156 t8).bind fun t9 =>
    (dBin tab .lss ty3 t7 t9).bind fun t10 =>
    dIf t10
      ((some ((nth 0 ds) : D)).bind fun t13 =>
    (some (t1 : D)).bind fun t14 =>
    (some ((nth 1 ds) : D)).bind fun t15 =>
    (dIndexAddr tab ty1156 t14 t15).bind fun t16 =>
    (dFieldAddr tab ty1168 0 t16).bind fun t17 =>
    (dLoad tab h_1 ty98 t17).bind fun t18 =>
    ((dAppend tab h_1 ty98 ty98 (.nils) t18).bind fun p => some (aftW p)).bind fun p19 =>
    (some (t1 : D)).bind fun t20 =>
    (some ((nth 1 ds) : D)).bind fun t21 =>
    (dIndexAddr tab ty1156 t20 t21).bind fun t22 =>
    (dFieldAddr tab ty1168 1 t22).bind fun t23 =>
    (dLoad tab p19.2 ty82 t23).bind fun t24 =>
    ((dAppend tab p19.2 ty82 ty82 (.nils) t24).bind fun p => some (aftW p)).bind fun p25 =>
    (dBuild tab ty1146 [0, 1] [p19.1, p25.1]).bind fun t26 =>
    (pLitF tab ty1144 1 [0] [t26]).bind fun t27 =>
    (dAppend tab p25.2 ty1144 ty1144 t13 t27).bind fun p28 =>
    chk (dLoad tab h_1 ty82 t23 = some t24)
    ((some (p28.1 : D)).bind fun t5_1 =>
    (some ((nth 1 ds) : D)).bind fun t11 =>
    (dBin tab .add ty3 t11 (.int .i64 1)).bind fun t12 =>
    (some (t12 : D)).bind fun t6_1 =>
    some (.nrm, [t5_1, t6_1, t10], p28.2)))
      (some ((.ext 0), [(nth 0 ds), (nth 1 ds), t10], h_1))
noncomputable def F1175 (t0 : D) (t1 : D) (h : Hp) : Option (D × Hp) :=
  (some (.nils : D)).bind fun t4 =>
  (some (.nils : D)).bind fun t5 =>
  (some (.int .i64 0 : D)).bind fun t6 =>
  ((loopW (F1175_L0 t1) [t5, t6, .any] h).bind fun r =>
    some ((unblk 0 r.1), [(nth 0 r.2.1), (nth 1 r.2.1), (nth 2 r.2.1)], r.2.2)).bind fun r_1 =>
  toEnd r_1.1 ((some ((nth 0 r_1.2.1) : D)).bind fun t29 =>
  (some (t29 : D)).bind fun t4_1 =>
  ((some (t4_1 : D)).bind fun d => (some ([] : List D)).bind fun ds => some (d :: ds)).bind fun ds => scope h r_1.2.2 (mkRes ds)) fun x => exEnd x (((some (t4 : D)).bind fun d => (some ([] : List D)).bind fun ds => some (d :: ds)).bind fun ds => scope h r_1.2.2 (mkRes ds))
theorem e1175 (t0 : D) (t1 : D) (h : Hp) : R fn1175 [t0, t1] h = F1175 t0 t1 h :=
  (run_fn (X := X) (F := Fs) (fi := i17) (by kernel_rfl) _ _).trans (by kernel_rfl)
/-- a loop: slots 7 8 12 -/
noncomputable def F1176_L0 (t0 : D) (t1 : D) (t2 : D) (ds : List D) (h_1 : Hp) : Option Out :=
    (some ((nth 1 ds) : D)).bind fun t9 =>
    (some (t2 : D)).bind fun t10 =>
    (dLenT tab ty40 t10).bind fun t11 =>
    (dBin tab .lss ty3 t9 t11).bind fun t12 =>
    dIf t12
      ((some ((nth 0 ds) : D)).bind fun t15 =>
    (some (t0 : D)).bind fun t16 =>
    (some (t1 : D)).bind fun t17 =>
    (some (t2 : D)).bind fun t18 =>
    (some ((nth 1 ds) : D)).bind fun t19 =>
    (dIndexAddr tab ty40 t18 t19).bind fun t20 =>
    (dLoad tab h_1 ty31 t20).bind fun t21 =>
    (R fn1187 [t15, t16, t17, t21] h_1).bind fun p22 =>
    (some (p22.1 : D)).bind fun t7_1 =>
    (some ((nth 1 ds) : D)).bind fun t13 =>
    (dBin tab .add ty3 t13 (.int .i64 1)).bind fun t14 =>
    (some (t14 : D)).bind fun t8_1 =>
    some (.nrm, [t7_1, t8_1, t12], p22.2))
      (some ((.ext 0), [(nth 0 ds), (nth 1 ds), t12], h_1))
noncomputable def F1176 (t0 : D) (t1 : D) (t2 : D) (h : Hp) : Option (D × Hp) :=
  (some (.nils : D)).bind fun t6 =>
  (some (.nils : D)).bind fun t7 =>
  (some (.int .i64 0 : D)).bind fun t8 =>
  ((loopW (F1176_L0 t0 t1 t2) [t7, t8, .any] h).bind fun r =>
    some ((unblk 0 r.1), [(nth 0 r.2.1), (nth 1 r.2.1), (nth 2 r.2.1)], r.2.2)).bind fun r_1 =>
  toEnd r_1.1 ((some ((nth 0 r_1.2.1) : D)).bind fun t23 =>
  (some (t23 : D)).bind fun t6_1 =>
  ((some (t6_1 : D)).bind fun d => (some ([] : List D)).bind fun ds => some (d :: ds)).bind fun ds => some (mkRes ds, r_1.2.2)) fun x => exEnd x (((some (t6 : D)).bind fun d => (some ([] : List D)).bind fun ds => some (d :: ds)).bind fun ds => some (mkRes ds, r_1.2.2))
theorem e1176 (t0 : D) (t1 : D) (t2 : D) (h : Hp) : R fn1176 [t0, t1, t2] h = F1176 t0 t1 t2 h :=
  (run_fn (X := X) (F := Fs) (fi := i18) (by kernel_rfl) _ _).trans (by kernel_rfl)
noncomputable def F57 (t0 : D) (h : Hp) : Option (D × Hp) :=
  (some (.bool false : D)).bind fun t2 =>
  (some (t0 : D)).bind fun t3 =>
  (dNilCheck tab t3).bind fun t4 =>
  (dFieldAddr tab ty101 1 t4).bind fun t5 =>
  (dLoad tab h ty3 t5).bind fun t6 =>
  (some (t0 : D)).bind fun t7 =>
  (dNilCheck tab t7).bind fun t8 =>
  (dFieldAddr tab ty101 0 t8).bind fun t9 =>
  (dLoad tab h ty22 t9).bind fun t10 =>
  (dLenT tab ty22 t10).bind fun t11 =>
  (dBin tab .lss ty3 t6 t11).bind fun t12 =>
  (some (t12 : D)).bind fun t2_1 =>
  ((some (t2_1 : D)).bind fun d => (some ([] : List D)).bind fun ds => some (d :: ds)).bind fun ds => some (mkRes ds, h)
theorem e57 (t0 : D) (h : Hp) : R fn57 [t0] h = F57 t0 h :=
  (run_fn (X := X) (F := Fs) (fi := i19) (by kernel_rfl) _ _).trans (by kernel_rfl)
/-- a loop: slots 4 5 14 25 -/
noncomputable def F1177_L0 (t0 : D) (t1 : D) (ds : List D) (h_1 : Hp) : Option Out :=
    (some ((nth 1 ds) : D)).bind fun t11 =>
    (some (t0 : D)).bind fun t12 =>
    (dLenT tab ty98 t12).bind fun t13 =>
    (dBin tab .lss ty3 t11 t13).bind fun t14 =>
    dIf t14
      ((some (t0 : D)).bind fun t17 =>
    (some ((nth 1 ds) : D)).bind fun t18 =>
    (dIndexAddr tab ty98 t17 t18).bind fun t19 =>
    (dLoad tab h_1 ty9 t19).bind fun t20 =>
    (some (t1 : D)).bind fun t21 =>
    (some ((nth 1 ds) : D)).bind fun t22 =>
    (dIndexAddr tab ty98 t21 t22).bind fun t23 =>
    (dLoad tab h_1 ty9 t23).bind fun t24 =>
    (dBin tab .neq ty9 t20 t24).bind fun t25 =>
    dIf t25
      ((some (.bool false : D)).bind fun t4_2 =>
      some (.ret, [t4_2, (nth 1 ds), t14, t25], h_1))
      ((some ((nth 1 ds) : D)).bind fun t15 =>
    (dBin tab .add ty3 t15 (.int .i64 1)).bind fun t16 =>
    (some (t16 : D)).bind fun t5_1 =>
    some (.nrm, [(nth 0 ds), t5_1, t14, t25], h_1)))
      (some ((.ext 0), [(nth 0 ds), (nth 1 ds), t14, (nth 3 ds)], h_1))
noncomputable def F1177 (t0 : D) (t1 : D) (h : Hp) : Option (D × Hp) :=
  (some (.bool false : D)).bind fun t4 =>
  (some (t0 : D)).bind fun t6 =>
  (dLenT tab ty98 t6).bind fun t7 =>
  (some (t1 : D)).bind fun t8 =>
  (dLenT tab ty98 t8).bind fun t9 =>
  (dBin tab .neq ty3 t7 t9).bind fun t10 =>
  dIf t10
    ((some (.bool false : D)).bind fun t4_1 =>
    ((some (t4_1 : D)).bind fun d => (some ([] : List D)).bind fun ds => some (d :: ds)).bind fun ds => some (mkRes ds, h))
    ((some (.int .i64 0 : D)).bind fun t5 =>
  ((loopW (F1177_L0 t0 t1) [t4, t5, .any, .any] h).bind fun r =>
    some ((unblk 0 r.1), [(nth 0 r.2.1), (nth 1 r.2.1), (nth 2 r.2.1), (nth 3 r.2.1)], r.2.2)).bind fun r_1 =>
  toEnd r_1.1 ((some (.bool true : D)).bind fun t4_3 =>
  ((some (t4_3 : D)).bind fun d => (some ([] : List D)).bind fun ds => some (d :: ds)).bind fun ds => some (mkRes ds, r_1.2.2)) fun x => exEnd x (((some ((nth 0 r_1.2.1) : D)).bind fun d => (some ([] : List D)).bind fun ds => some (d :: ds)).bind fun ds => some (mkRes ds, r_1.2.2)))
theorem e1177 (t0 : D) (t1 : D) (h : Hp) : R fn1177 [t0, t1] h = F1177 t0 t1 h :=
  (run_fn (X := X) (F := Fs) (fi := i20) (by kernel_rfl) _ _).trans (by kernel_rfl)
/-- a loop: slots 4 5 14 25 -/
noncomputable def F1178_L0 (t0 : D) (t1 : D) (ds : List D) (h_1 : Hp) : Option Out :=
    (some ((nth 1 ds) : D)).bind fun t11 =>
    (some (t0 : D)).bind fun t12 =>
    (dLenT tab ty82 t12).bind fun t13 =>
    (dBin tab .lss ty3 t11 t13).bind fun t14 =>
    dIf t14
      ((some (t0 : D)).bind fun t17 =>
    (some ((nth 1 ds) : D)).bind fun t18 =>
    (dIndexAddr tab ty82 t17 t18).bind fun t19 =>
    (dLoad tab h_1 ty3 t19).bind fun t20 =>
    (some (t1 : D)).bind fun t21 =>
    (some ((nth 1 ds) : D)).bind fun t22 =>
    (dIndexAddr tab ty82 t21 t22).bind fun t23 =>
    (dLoad tab h_1 ty3 t23).bind fun t24 =>
    (dBin tab .neq ty3 t20 t24).bind fun t25 =>
    dIf t25
      ((some (.bool false : D)).bind fun t4_2 =>
      some (.ret, [t4_2, (nth 1 ds), t14, t25], h_1))
      ((some ((nth 1 ds) : D)).bind fun t15 =>
    (dBin tab .add ty3 t15 (.int .i64 1)).bind fun t16 =>
    (some (t16 : D)).bind fun t5_1 =>
    some (.nrm, [(nth 0 ds), t5_1, t14, t25], h_1)))
      (some ((.ext 0), [(nth 0 ds), (nth 1 ds), t14, (nth 3 ds)], h_1))
noncomputable def F1178 (t0 : D) (t1 : D) (h : Hp) : Option (D × Hp) :=
  (some (.bool false : D)).bind fun t4 =>
  (some (t0 : D)).bind fun t6 =>
  (dLenT tab ty82 t6).bind fun t7 =>
  (some (t1 : D)).bind fun t8 =>
  (dLenT tab ty82 t8).bind fun t9 =>
  (dBin tab .neq ty3 t7 t9).bind fun t10 =>
  dIf t10
    ((some (.bool false : D)).bind fun t4_1 =>
    ((some (t4_1 : D)).bind fun d => (some ([] : List D)).bind fun ds => some (d :: ds)).bind fun ds => some (mkRes ds, h))
    ((some (.int .i64 0 : D)).bind fun t5 =>
  ((loopW (F1178_L0 t0 t1) [t4, t5, .any, .any] h).bind fun r =>
    some ((unblk 0 r.1), [(nth 0 r.2.1), (nth 1 r.2.1), (nth 2 r.2.1), (nth 3 r.2.1)], r.2.2)).bind fun r_1 =>
  toEnd r_1.1 ((some (.bool true : D)).bind fun t4_3 =>
  ((some (t4_3 : D)).bind fun d => (some ([] : List D)).bind fun ds => some (d :: ds)).bind fun ds => some (mkRes ds, r_1.2.2)) fun x => exEnd x (((some ((nth 0 r_1.2.1) : D)).bind fun d => (some ([] : List D)).bind fun ds => some (d :: ds)).bind fun ds => some (mkRes ds, r_1.2.2)))
theorem e1178 (t0 : D) (t1 : D) (h : Hp) : R fn1178 [t0, t1] h = F1178 t0 t1 h :=
  (run_fn (X := X) (F := Fs) (fi := i21) (by kernel_rfl) _ _).trans (by kernel_rfl)
noncomputable def F1179 (t0 : D) (h : Hp) : Option (D × Hp) :=
  (some (.nils : D)).bind fun t2 =>
  (some (t0 : D)).bind fun t3 =>
  (dBin tab .eql ty1144 t3 (.nils)).bind fun t4 =>
  dIf t4
    ((some (.nils : D)).bind fun t2_1 =>
    ((some (t2_1 : D)).bind fun d => (some ([] : List D)).bind fun ds => some (d :: ds)).bind fun ds => some (mkRes ds, h))
    ((pLitF tab ty1144 0 [] []).bind fun t5 =>
  (some (t0 : D)).bind fun t6 =>
  (dAppend tab h ty1144 ty1144 t5 t6).bind fun p7 =>
  (some (p7.1 : D)).bind fun t2_2 =>
  ((some (t2_2 : D)).bind fun d => (some ([] : List D)).bind fun ds => some (d :: ds)).bind fun ds => some (mkRes ds, p7.2))
theorem e1179 (t0 : D) (h : Hp) : R fn1179 [t0] h = F1179 t0 h :=
  (run_fn (X := X) (F := Fs) (fi := i22) (by kernel_rfl) _ _).trans (by kernel_rfl)
noncomputable def F1180 (t0 : D) (t1 : D) (h : Hp) : Option (D × Hp) :=
  (some (t0 : D)).bind fun t4 =>
  (some (t0 : D)).bind fun t5 =>
  (dLenT tab ty1144 t5).bind fun t6 =>
  (some (t1 : D)).bind fun t7 =>
  (R fn1188 [t4, t6, t7] h).bind fun p8 =>
  (some ([] : List D)).bind fun ds => some (mkRes ds, p8.2)
theorem e1180 (t0 : D) (t1 : D) (h : Hp) : R fn1180 [t0, t1] h = F1180 t0 t1 h :=
  (run_fn (X := X) (F := Fs) (fi := i23) (by kernel_rfl) _ _).trans (by kernel_rfl)
noncomputable def F1181 (t0 : D) (t1 : D) (h : Hp) : Option (D × Hp) :=
  (pBoxF t0).bind fun t2 =>
  (pBoxF t1).bind fun t3 =>
  (some (.int .i64 0 : D)).bind fun t4 =>
  (dLoad tab h ty1146 t3).bind fun t5 =>
  (R fn1182 [t5] h).bind fun p6 =>
  (dLoad tab p6.2 ty1146 t2).bind fun t7 =>
  (R fn1182 [t7] p6.2).bind fun p8 =>
  (R fn90 [p6.1, p8.1] p8.2).bind fun p9 =>
  (dFieldAddr tab ty1146 0 t2).bind fun t10 =>
  (dLoad tab p9.2 ty98 t10).bind fun t11 =>
  (dFieldAddr tab ty1146 0 t3).bind fun t12 =>
  (dLoad tab p9.2 ty98 t12).bind fun t13 =>
  (R fn1183 [t11, t13] p9.2).bind fun p14 =>
  (pLitF tab ty82 2 [0, 1] [p9.1, p14.1]).bind fun t15 =>
  (R fn89 [t15] p14.2).bind fun p16 =>
  chk (dLoad tab h ty1146 t2 = some t7)
  (chk (dLoad tab h ty98 t10 = some t11)
  (chk (dLoad tab p6.2 ty98 t10 = some t11)
  (chk (dLoad tab p8.2 ty98 t10 = some t11)
  (chk (dLoad tab h ty98 t12 = some t13)
  (chk (dLoad tab p6.2 ty98 t12 = some t13)
  (chk (dLoad tab p8.2 ty98 t12 = some t13)
  ((some (p16.1 : D)).bind fun t4_1 =>
  ((some (t4_1 : D)).bind fun d => (some ([] : List D)).bind fun ds => some (d :: ds)).bind fun ds => some (mkRes ds, p16.2))))))))
theorem e1181 (t0 : D) (t1 : D) (h : Hp) : R fn1181 [t0, t1] h = F1181 t0 t1 h :=
  (run_fn (X := X) (F := Fs) (fi := i24) (by kernel_rfl) _ _).trans (by kernel_rfl)
/-- a loop: slots 2 5 8 9 14 -/
noncomputable def F89_L0 (t3 : D) (t6 : D) (t7 : D) (ds : List D) (h_1 : Hp) : Option Out :=
    (dBin tab .lss ty3 (nth 2 ds) t7).bind fun t9 =>
    dIf t9
      ((dIndexAddr tab ty82 t6 (nth 2 ds)).bind fun t10 =>
    (dLoad tab h_1 ty3 t10).bind fun t11 =>
    (some (t11 : D)).bind fun t5 =>
    (some (t5 : D)).bind fun t12 =>
    (some (t3 : D)).bind fun t13 =>
    (dBin tab .neq ty3 t12 t13).bind fun t14 =>
    dIf t14
      ((some (t5 : D)).bind fun t15 =>
      (some (t15 : D)).bind fun t2_1 =>
      some (.ret, [t2_1, t5, (nth 2 ds), t9, t14], h_1))
      ((dBin tab .add ty3 (nth 2 ds) (.int .i64 1)).bind fun t16 =>
    (some (t16 : D)).bind fun t8_1 =>
    some (.nrm, [(nth 0 ds), t5, t8_1, t9, t14], h_1)))
      (some ((.ext 0), [(nth 0 ds), (nth 1 ds), (nth 2 ds), t9, (nth 4 ds)], h_1))
noncomputable def F89 (t0 : D) (h : Hp) : Option (D × Hp) :=
  (some (.int .i64 0 : D)).bind fun t2 =>
  (some (.int .i64 0 : D)).bind fun t3 =>
  (some (t0 : D)).bind fun t6 =>
  (dLenT tab ty82 t6).bind fun t7 =>
  (some (.int .i64 0 : D)).bind fun t8 =>
  ((loopW (F89_L0 t3 t6 t7) [t2, .any, t8, .any, .any] h).bind fun r =>
    some ((unblk 0 r.1), [(nth 0 r.2.1), (nth 1 r.2.1), (nth 2 r.2.1), (nth 3 r.2.1), (nth 4 r.2.1)], r.2.2)).bind fun r_1 =>
  toEnd r_1.1 ((some (t3 : D)).bind fun t17 =>
  (some (t17 : D)).bind fun t2_2 =>
  ((some (t2_2 : D)).bind fun d => (some ([] : List D)).bind fun ds => some (d :: ds)).bind fun ds => some (mkRes ds, r_1.2.2)) fun x => exEnd x (((some ((nth 0 r_1.2.1) : D)).bind fun d => (some ([] : List D)).bind fun ds => some (d :: ds)).bind fun ds => some (mkRes ds, r_1.2.2))
theorem e89 (t0 : D) (h : Hp) : R fn89 [t0] h = F89 t0 h :=
  (run_fn (X := X) (F := Fs) (fi := i25) (by kernel_rfl) _ _).trans (by kernel_rfl)
noncomputable def F90 (t0 : D) (t1 : D) (h : Hp) : Option (D × Hp) :=
  (some (.int .i64 0 : D)).bind fun t4 =>
  (some (t0 : D)).bind fun t7 =>
  (R fn99 [t7] h).bind fun p8 =>
  (some (p8.1 : D)).bind fun t5 =>
  (some (t1 : D)).bind fun t9 =>
  (R fn99 [t9] p8.2).bind fun p10 =>
  (some (p10.1 : D)).bind fun t6 =>
  (some (t5 : D)).bind fun t11 =>
  dIf t11
    ((some (t6 : D)).bind fun t12 =>
    dIf t12
      ((some (.int .i64 0 : D)).bind fun t4_1 =>
      ((some (t4_1 : D)).bind fun d => (some ([] : List D)).bind fun ds => some (d :: ds)).bind fun ds => some (mkRes ds, p10.2))
      ((some (.int .i64 (-1) : D)).bind fun t4_2 =>
    ((some (t4_2 : D)).bind fun d => (some ([] : List D)).bind fun ds => some (d :: ds)).bind fun ds => some (mkRes ds, p10.2)))
    ((some (t6 : D)).bind fun t13 =>
  dIf t13
    ((some (.int .i64 1 : D)).bind fun t4_3 =>
    ((some (t4_3 : D)).bind fun d => (some ([] : List D)).bind fun ds => some (d :: ds)).bind fun ds => some (mkRes ds, p10.2))
    ((some (t0 : D)).bind fun t14 =>
  (some (t1 : D)).bind fun t15 =>
  (dBin tab .lss ty3 t14 t15).bind fun t16 =>
  dIf t16
    ((some (.int .i64 (-1) : D)).bind fun t4_4 =>
    ((some (t4_4 : D)).bind fun d => (some ([] : List D)).bind fun ds => some (d :: ds)).bind fun ds => some (mkRes ds, p10.2))
    ((some (t0 : D)).bind fun t17 =>
  (some (t1 : D)).bind fun t18 =>
  (dBin tab .gtr ty3 t17 t18).bind fun t19 =>
  dIf t19
    ((some (.int .i64 1 : D)).bind fun t4_5 =>
    ((some (t4_5 : D)).bind fun d => (some ([] : List D)).bind fun ds => some (d :: ds)).bind fun ds => some (mkRes ds, p10.2))
    ((some (.int .i64 0 : D)).bind fun t4_6 =>
  ((some (t4_6 : D)).bind fun d => (some ([] : List D)).bind fun ds => some (d :: ds)).bind fun ds => some (mkRes ds, p10.2)))))
theorem e90 (t0 : D) (t1 : D) (h : Hp) : R fn90 [t0, t1] h = F90 t0 t1 h :=
  (run_fn (X := X) (F := Fs) (fi := i26) (by kernel_rfl) _ _).trans (by kernel_rfl)
noncomputable def F1182 (t0 : D) (h : Hp) : Option (D × Hp) :=
  (pBoxF t0).bind fun t1 =>
  (some (.int .i64 0 : D)).bind fun t2 =>
  (dFieldAddr tab ty1146 1 t1).bind fun t3 =>
  (dLoad tab h ty82 t3).bind fun t4 =>
  (dLenT tab ty82 t4).bind fun t5 =>
  (dBin tab .eql ty3 t5 (.int .i64 0)).bind fun t6 =>
  dIf t6
    ((some (.int .i64 0 : D)).bind fun t2_1 =>
    ((some (t2_1 : D)).bind fun d => (some ([] : List D)).bind fun ds => some (d :: ds)).bind fun ds => some (mkRes ds, h))
    ((dFieldAddr tab ty1146 1 t1).bind fun t7 =>
  (dLoad tab h ty82 t7).bind fun t8 =>
  (dIndexAddr tab ty82 t8 (.int .i64 0)).bind fun t9 =>
  (dLoad tab h ty3 t9).bind fun t10 =>
  (some (t10 : D)).bind fun t2_2 =>
  ((some (t2_2 : D)).bind fun d => (some ([] : List D)).bind fun ds => some (d :: ds)).bind fun ds => some (mkRes ds, h))
theorem e1182 (t0 : D) (h : Hp) : R fn1182 [t0] h = F1182 t0 h :=
  (run_fn (X := X) (F := Fs) (fi := i27) (by kernel_rfl) _ _).trans (by kernel_rfl)
noncomputable def F1183 (t0 : D) (t1 : D) (h : Hp) : Option (D × Hp) :=
  (some (.int .i64 0 : D)).bind fun t4 =>
  (some (t0 : D)).bind fun t5 =>
  (some (t1 : D)).bind fun t6 =>
  (R fn1189 [t5, t6] h).bind fun p7 =>
  (some (p7.1 : D)).bind fun t4_1 =>
  ((some (t4_1 : D)).bind fun d => (some ([] : List D)).bind fun ds => some (d :: ds)).bind fun ds => some (mkRes ds, p7.2)
theorem e1183 (t0 : D) (t1 : D) (h : Hp) : R fn1183 [t0, t1] h = F1183 t0 t1 h :=
  (run_fn (X := X) (F := Fs) (fi := i28) (by kernel_rfl) _ _).trans (by kernel_rfl)
noncomputable def F1184 (t0 : D) (t1 : D) (h : Hp) : Option (D × Hp) :=
  (some (.nils : D)).bind fun t4 =>
  (some (t0 : D)).bind fun t5 =>
  (some (t1 : D)).bind fun t6 =>
  (dMax t6 (.int .i64 0)).bind fun t7 =>
  (some (t0 : D)).bind fun t8 =>
  (dLenT tab ty1144 t8).bind fun t9 =>
  (dMin t7 t9).bind fun t10 =>
  (dSliceAt tab ty1144 false true false [t5, t10]).bind fun t11 =>
  (some (t11 : D)).bind fun t4_1 =>
  ((some (t4_1 : D)).bind fun d => (some ([] : List D)).bind fun ds => some (d :: ds)).bind fun ds => some (mkRes ds, h)
theorem e1184 (t0 : D) (t1 : D) (h : Hp) : R fn1184 [t0, t1] h = F1184 t0 t1 h :=
  (run_fn (X := X) (F := Fs) (fi := i29) (by kernel_rfl) _ _).trans (by kernel_rfl)
/-- a loop: slots 4 5 15 26 35 -/
noncomputable def F1185_L0 (t0 : D) (t1 : D) (ds : List D) (h_1 : Hp) : Option Out :=
    (some ((nth 1 ds) : D)).bind fun t6 =>
    (some (t0 : D)).bind fun t7 =>
    (dLenT tab ty98 t7).bind fun t8 =>
    (dBin tab .lss ty3 t6 t8).bind fun t9 =>
    (some (t9 : D)).bind fun t10 =>
    (gd t10 true (some ((nth 1 ds) : D))).bind fun t11 =>
    (gd t10 true (some (t1 : D))).bind fun t12 =>
    (gd t10 true (dLenT tab ty98 t12)).bind fun t13 =>
    (gd t10 true (dBin tab .lss ty3 t11 t13)).bind fun t14 =>
    (dPick t10 t14 (.bool false)).bind fun t15 =>
    dIf t15
      ((some (t0 : D)).bind fun t18 =>
    (some ((nth 1 ds) : D)).bind fun t19 =>
    (dIndexAddr tab ty98 t18 t19).bind fun t20 =>
    (dLoad tab h_1 ty9 t20).bind fun t21 =>
    (some (t1 : D)).bind fun t22 =>
    (some ((nth 1 ds) : D)).bind fun t23 =>
    (dIndexAddr tab ty98 t22 t23).bind fun t24 =>
    (dLoad tab h_1 ty9 t24).bind fun t25 =>
    (dBin tab .lss ty9 t21 t25).bind fun t26 =>
    dIf t26
      ((some (.int .i64 (-1) : D)).bind fun t4_1 =>
      some (.ret, [t4_1, (nth 1 ds), t15, t26, (nth 4 ds)], h_1))
      ((some (t0 : D)).bind fun t27 =>
    (some ((nth 1 ds) : D)).bind fun t28 =>
    (dIndexAddr tab ty98 t27 t28).bind fun t29 =>
    (dLoad tab h_1 ty9 t29).bind fun t30 =>
    (some (t1 : D)).bind fun t31 =>
    (some ((nth 1 ds) : D)).bind fun t32 =>
    (dIndexAddr tab ty98 t31 t32).bind fun t33 =>
    (dLoad tab h_1 ty9 t33).bind fun t34 =>
    (dBin tab .gtr ty9 t30 t34).bind fun t35 =>
    dIf t35
      ((some (.int .i64 1 : D)).bind fun t4_2 =>
      some (.ret, [t4_2, (nth 1 ds), t15, t26, t35], h_1))
      ((some ((nth 1 ds) : D)).bind fun t16 =>
    (dBin tab .add ty3 t16 (.int .i64 1)).bind fun t17 =>
    (some (t17 : D)).bind fun t5_1 =>
    some (.nrm, [(nth 0 ds), t5_1, t15, t26, t35], h_1))))
      (some ((.ext 0), [(nth 0 ds), (nth 1 ds), t15, (nth 3 ds), (nth 4 ds)], h_1))
noncomputable def F1185 (t0 : D) (t1 : D) (h : Hp) : Option (D × Hp) :=
  (some (.int .i64 0 : D)).bind fun t4 =>
  (some (.int .i64 0 : D)).bind fun t5 =>
  ((loopW (F1185_L0 t0 t1) [t4, t5, .any, .any, .any] h).bind fun r =>
    some ((unblk 0 r.1), [(nth 0 r.2.1), (nth 1 r.2.1), (nth 2 r.2.1), (nth 3 r.2.1), (nth 4 r.2.1)], r.2.2)).bind fun r_1 =>
  toEnd r_1.1 ((some (t0 : D)).bind fun t37 =>
  (dLenT tab ty98 t37).bind fun t38 =>
  (some (t1 : D)).bind fun t39 =>
  (dLenT tab ty98 t39).bind fun t40 =>
  (dBin tab .lss ty3 t38 t40).bind fun t41 =>
  (some (t41 : D)).bind fun t36 =>
  dIf t36
    ((some (.int .i64 (-1) : D)).bind fun t4_3 =>
    ((some (t4_3 : D)).bind fun d => (some ([] : List D)).bind fun ds => some (d :: ds)).bind fun ds => some (mkRes ds, r_1.2.2))
    ((some (t0 : D)).bind fun t43 =>
    (dLenT tab ty98 t43).bind fun t44 =>
    (some (t1 : D)).bind fun t45 =>
    (dLenT tab ty98 t45).bind fun t46 =>
    (dBin tab .gtr ty3 t44 t46).bind fun t47 =>
    (some (t47 : D)).bind fun t42 =>
    dIf t42
      ((some (.int .i64 1 : D)).bind fun t4_4 =>
      ((some (t4_4 : D)).bind fun d => (some ([] : List D)).bind fun ds => some (d :: ds)).bind fun ds => some (mkRes ds, r_1.2.2))
      ((some (.int .i64 0 : D)).bind fun t4_5 =>
  ((some (t4_5 : D)).bind fun d => (some ([] : List D)).bind fun ds => some (d :: ds)).bind fun ds => some (mkRes ds, r_1.2.2)))) fun x => exEnd x (((some ((nth 0 r_1.2.1) : D)).bind fun d => (some ([] : List D)).bind fun ds => some (d :: ds)).bind fun ds => some (mkRes ds, r_1.2.2))
theorem e1185 (t0 : D) (t1 : D) (h : Hp) : R fn1185 [t0, t1] h = F1185 t0 t1 h :=
  (run_fn (X := X) (F := Fs) (fi := i30) (by kernel_rfl) _ _).trans (by kernel_rfl)
noncomputable def F1186 (t0 : D) (h : Hp) : Option (D × Hp) :=
  (some (.str [] : D)).bind fun t2 =>
  (pLitF tab ty98 4 [0, 1, 2, 3] [.str [108, 101, 118, 101, 108], .str [109, 115], .str [117, 115, 101, 114], .str [99, 111, 100, 101]]).bind fun t3 =>
  (some (t0 : D)).bind fun t4 =>
  (R fn24 [t4, .int .i64 4] h).bind fun p5 =>
  (dIndexAddr tab ty98 t3 p5.1).bind fun t6 =>
  (dLoad tab p5.2 ty9 t6).bind fun t7 =>
  (some (t7 : D)).bind fun t2_1 =>
  ((some (t2_1 : D)).bind fun d => (some ([] : List D)).bind fun ds => some (d :: ds)).bind fun ds => some (mkRes ds, p5.2)
theorem e1186 (t0 : D) (h : Hp) : R fn1186 [t0] h = F1186 t0 h :=
  (run_fn (X := X) (F := Fs) (fi := i31) (by kernel_rfl) _ _).trans (by kernel_rfl)
/-- a loop: slots 9 10 11 12 24 -/
noncomputable def F71_L1 (t0 : D) (t1 : D) (ds : List D) (ds_1 : List D) (h_2 : Hp) : Option Out :=
    (some ((nth 2 ds_1) : D)).bind fun t23 =>
    (dBin tab .gtr ty3 t23 (.int .i64 0)).bind fun t24 =>
    dIf t24
      ((some (t0 : D)).bind fun t27 =>
    (some (t1 : D)).bind fun t28 =>
    (some ((nth 1 ds) : D)).bind fun t29 =>
    (dBin tab .add ty3 (.int .i64 5) t29).bind fun t30 =>
    (some ((nth 1 ds_1) : D)).bind fun t31 =>
    (R fn84 [t27, t28, t30, t31] h_2).bind fun p32 =>
    (boxN 11 p32.1).bind fun t12 =>
    (some ((nth 0 ds_1) : D)).bind fun t33 =>
    (dLoad tab p32.2 ty74 t12).bind fun t34 =>
    (pLitF tab ty113 1 [0] [t34]).bind fun t35 =>
    (dAppend tab p32.2 ty113 ty113 t33 t35).bind fun p36 =>
    (some (p36.1 : D)).bind fun t9_1 =>
    (dFieldAddr tab ty74 1 t12).bind fun t37 =>
    (dFieldAddr tab ty31 3 t37).bind fun t38 =>
    (dLoad tab p36.2 ty3 t38).bind fun t39 =>
    (some (t39 : D)).bind fun t10_1 =>
    (some ((nth 2 ds_1) : D)).bind fun t25 =>
    (dBin tab .sub ty3 t25 (.int .i64 1)).bind fun t26 =>
    (some (t26 : D)).bind fun t11_1 =>
    some (.nrm, [t9_1, t10_1, t11_1, t12, t24], p36.2))
      (some ((.ext 2), [(nth 0 ds_1), (nth 1 ds_1), (nth 2 ds_1), (nth 3 ds_1), t24], h_2))
/-- a loop: slots 7 8 9 10 11 12 16 24 -/
noncomputable def F71_L0 (t0 : D) (t1 : D) (t2 : D) (ds : List D) (h_1 : Hp) : Option Out :=
    (some ((nth 1 ds) : D)).bind fun t13 =>
    (some (t0 : D)).bind fun t14 =>
    (R fn24 [t14, .int .i64 3] h_1).bind fun p15 =>
    (dBin tab .leq ty3 t13 p15.1).bind fun t16 =>
    dIf t16
      ((some (.nils : D)).bind fun t9 =>
    (some (.int .i64 0 : D)).bind fun t10 =>
    (some (t0 : D)).bind fun t19 =>
    (some (t2 : D)).bind fun t20 =>
    (dBin tab .add ty3 t20 (.int .i64 1)).bind fun t21 =>
    (R fn24 [t19, t21] p15.2).bind fun p22 =>
    (some (p22.1 : D)).bind fun t11 =>
    ((loopW (F71_L1 t0 t1 ds) [t9, t10, t11, (nth 5 ds), (nth 7 ds)] p22.2).bind fun r_1 =>
      some ((unblk 2 r_1.1), [(nth 0 r_1.2.1), (nth 1 r_1.2.1), (nth 2 r_1.2.1), (nth 3 r_1.2.1), (nth 4 r_1.2.1)], r_1.2.2)).bind fun r_2 =>
    toEnd r_2.1 ((some ((nth 0 ds) : D)).bind fun t40 =>
    (some ((nth 0 r_2.2.1) : D)).bind fun t41 =>
    (pLitF tab ty111 1 [0] [t41]).bind fun t42 =>
    (dAppend tab r_2.2.2 ty111 ty111 t40 t42).bind fun p43 =>
    (some (p43.1 : D)).bind fun t7_1 =>
    (some ((nth 1 ds) : D)).bind fun t17 =>
    (dBin tab .add ty3 t17 (.int .i64 1)).bind fun t18 =>
    (some (t18 : D)).bind fun t8_1 =>
    some (.nrm, [t7_1, t8_1, (nth 0 r_2.2.1), (nth 1 r_2.2.1), (nth 2 r_2.2.1), (nth 3 r_2.2.1), t16, (nth 4 r_2.2.1)], p43.2)) fun x => toEnd (unblk 1 x) ((some ((nth 1 ds) : D)).bind fun t17_1 =>
    (dBin tab .add ty3 t17_1 (.int .i64 1)).bind fun t18_1 =>
    (some (t18_1 : D)).bind fun t8_2 =>
    some (.nrm, [(nth 0 ds), t8_2, (nth 0 r_2.2.1), (nth 1 r_2.2.1), (nth 2 r_2.2.1), (nth 3 r_2.2.1), t16, (nth 4 r_2.2.1)], r_2.2.2)) fun x_1 => some (x_1, [(nth 0 ds), (nth 1 ds), (nth 0 r_2.2.1), (nth 1 r_2.2.1), (nth 2 r_2.2.1), (nth 3 r_2.2.1), t16, (nth 4 r_2.2.1)], r_2.2.2))
      (some ((.ext 0), [(nth 0 ds), (nth 1 ds), (nth 2 ds), (nth 3 ds), (nth 4 ds), (nth 5 ds), t16, (nth 7 ds)], p15.2))
noncomputable def F71 (t0 : D) (t1 : D) (t2 : D) (h : Hp) : Option (D × Hp) :=
  (some (.nils : D)).bind fun t6 =>
  (some (.nils : D)).bind fun t7 =>
  (some (.int .i64 0 : D)).bind fun t8 =>
  ((loopW (F71_L0 t0 t1 t2) [t7, t8, .any, .any, .any, .any, .any, .any] h).bind fun r =>
    some ((unblk 0 r.1), [(nth 0 r.2.1), (nth 1 r.2.1), (nth 2 r.2.1), (nth 3 r.2.1), (nth 4 r.2.1), (nth 5 r.2.1), (nth 6 r.2.1), (nth 7 r.2.1)], r.2.2)).bind fun r_3 =>
  toEnd r_3.1 ((some ((nth 0 r_3.2.1) : D)).bind fun t44 =>
  (some (t44 : D)).bind fun t6_1 =>
  ((some (t6_1 : D)).bind fun d => (some ([] : List D)).bind fun ds => some (d :: ds)).bind fun ds => scope h r_3.2.2 (mkRes ds)) fun x_2 => exEnd x_2 (((some (t6 : D)).bind fun d => (some ([] : List D)).bind fun ds => some (d :: ds)).bind fun ds => scope h r_3.2.2 (mkRes ds))
theorem e71 (t0 : D) (t1 : D) (t2 : D) (h : Hp) : R fn71 [t0, t1, t2] h = F71 t0 t1 t2 h :=
  (run_fn (X := X) (F := Fs) (fi := i32) (by kernel_rfl) _ _).trans (by kernel_rfl)
/-- a loop: slots 5 19 -/
noncomputable def F72_L0 (t0 : D) (t3 : D) (ds : List D) (h_1 : Hp) : Option Out :=
    (some ((nth 0 ds) : D)).bind fun t9 =>
    (dBin tab .gtr ty3 t9 (.int .i64 0)).bind fun t10 =>
    (some (t10 : D)).bind fun t11 =>
    (gd t11 true (dLoad tab h_1 ty31 t3)).bind fun t12 =>
    (gd t11 true (some (t0 : D))).bind fun t13 =>
    (gd t11 true (some ((nth 0 ds) : D))).bind fun t14 =>
    (gd t11 true (dBin tab .sub ty3 t14 (.int .i64 1))).bind fun t15 =>
    (gd t11 true (dIndexAddr tab ty40 t13 t15)).bind fun t16 =>
    (gd t11 true (dLoad tab h_1 ty31 t16)).bind fun t17 =>
    (gdW t11 true h_1 (R fn85 [t12, t17] h_1)).bind fun p18 =>
    (dPick t11 p18.1 (.bool false)).bind fun t19 =>
    dIf t19
      ((some ((nth 0 ds) : D)).bind fun t20 =>
    (dBin tab .sub ty3 t20 (.int .i64 1)).bind fun t21 =>
    (some (t21 : D)).bind fun t5_1 =>
    some (.nrm, [t5_1, t19], p18.2))
      (some ((.ext 0), [(nth 0 ds), t19], p18.2))
noncomputable def F72 (t0 : D) (t1 : D) (h : Hp) : Option (D × Hp) :=
  (pBoxF t1).bind fun t3 =>
  (some (.nils : D)).bind fun t4 =>
  (some (t0 : D)).bind fun t7 =>
  (dLenT tab ty40 t7).bind fun t8 =>
  (some (t8 : D)).bind fun t5 =>
  ((loopW (F72_L0 t0 t3) [t5, .any] h).bind fun r =>
    some ((unblk 0 r.1), [(nth 0 r.2.1), (nth 1 r.2.1)], r.2.2)).bind fun r_1 =>
  toEnd r_1.1 ((some (t0 : D)).bind fun t22 =>
  (some ((nth 0 r_1.2.1) : D)).bind fun t23 =>
  (dSliceAt tab ty40 false true false [t22, t23]).bind fun t24 =>
  (dAppend tab r_1.2.2 ty40 ty40 (.nils) t24).bind fun p25 =>
  (some (p25.1 : D)).bind fun t6 =>
  (some (t6 : D)).bind fun t26 =>
  (dLoad tab p25.2 ty31 t3).bind fun t27 =>
  (pLitF tab ty40 1 [0] [t27]).bind fun t28 =>
  (dAppend tab p25.2 ty40 ty40 t26 t28).bind fun p29 =>
  (some (t0 : D)).bind fun t30 =>
  (some ((nth 0 r_1.2.1) : D)).bind fun t31 =>
  (dSliceAt tab ty40 true false false [t30, t31]).bind fun t32 =>
  (dAppend tab p29.2 ty40 ty40 p29.1 t32).bind fun p33 =>
  (some (p33.1 : D)).bind fun t4_1 =>
  ((some (t4_1 : D)).bind fun d => (some ([] : List D)).bind fun ds => some (d :: ds)).bind fun ds => scope h p33.2 (mkRes ds)) fun x => exEnd x (((some (t4 : D)).bind fun d => (some ([] : List D)).bind fun ds => some (d :: ds)).bind fun ds => scope h r_1.2.2 (mkRes ds))
theorem e72 (t0 : D) (t1 : D) (h : Hp) : R fn72 [t0, t1] h = F72 t0 t1 h :=
  (run_fn (X := X) (F := Fs) (fi := i33) (by kernel_rfl) _ _).trans (by kernel_rfl)
noncomputable def F1187 (t0 : D) (t1 : D) (t2 : D) (t3 : D) (h : Hp) : Option (D × Hp) :=
  (pBoxF t3).bind fun t7 =>
  (some (.nils : D)).bind fun t8 =>
  (some (t2 : D)).bind fun t9 =>
  (some (t0 : D)).bind fun t10 =>
  (some (t1 : D)).bind fun t11 =>
  (some (t2 : D)).bind fun t12 =>
  (dLoad tab h ty31 t7).bind fun t13 =>
  (R fn1191 [t11, t12, t13] h).bind fun p14 =>
  (pLitF tab ty1156 1 [0] [p14.1]).bind fun t15 =>
  (R fn1190 [t9, t10, t15] p14.2).bind fun p16 =>
  (some (p16.1 : D)).bind fun t8_1 =>
  ((some (t8_1 : D)).bind fun d => (some ([] : List D)).bind fun ds => some (d :: ds)).bind fun ds => some (mkRes ds, p16.2)
theorem e1187 (t0 : D) (t1 : D) (t2 : D) (t3 : D) (h : Hp) : R fn1187 [t0, t1, t2, t3] h = F1187 t0 t1 t2 t3 h :=
  (run_fn (X := X) (F := Fs) (fi := i34) (by kernel_rfl) _ _).trans (by kernel_rfl)
/-- a loop: slots 7 8 13 -/
noncomputable def F1188_L0 (t0 : D) (t1 : D) (t2 : D) (t6 : D) (ds : List D) (h_1 : Hp) : Option Out :=
    (some ((nth 1 ds) : D)).bind fun t11 =>
    (some (t1 : D)).bind fun t12 =>
    (dBin tab .leq ty3 t11 t12).bind fun t13 =>
    dIf t13
      ((some (t0 : D)).bind fun t14 =>
    (some ((nth 0 ds) : D)).bind fun t15 =>
    (some ((nth 1 ds) : D)).bind fun t16 =>
    (some (t2 : D)).bind fun t17 =>
    (R fn1192 [t14, t15, t16, t17] h_1).bind fun p18 =>
    (some ((nth 1 ds) : D)).bind fun t19 =>
    (some (t19 : D)).bind fun t7_1 =>
    (some ((nth 1 ds) : D)).bind fun t20 =>
    (some (t6 : D)).bind fun t21 =>
    (dBin tab .add ty3 t20 t21).bind fun t22 =>
    (some (t22 : D)).bind fun t8_1 =>
    some (.nrm, [t7_1, t8_1, t13], p18.2))
      (some ((.ext 0), [(nth 0 ds), (nth 1 ds), t13], h_1))
/-- a loop: slots 7 8 35 -/
noncomputable def F1188_L2 (t0 : D) (t1 : D) (t2 : D) (ds_1 : List D) (ds_2 : List D) (h_3 : Hp) : Option Out :=
    (some ((nth 1 ds_2) : D)).bind fun t33 =>
    (some (t1 : D)).bind fun t34 =>
    (dBin tab .leq ty3 t33 t34).bind fun t35 =>
    dIf t35
      ((some (t0 : D)).bind fun t36 =>
    (some ((nth 0 ds_2) : D)).bind fun t37 =>
    (some ((nth 0 ds_2) : D)).bind fun t38 =>
    (some ((nth 0 ds_1) : D)).bind fun t39 =>
    (dBin tab .add ty3 t38 t39).bind fun t40 =>
    (some ((nth 1 ds_2) : D)).bind fun t41 =>
    (some (t2 : D)).bind fun t42 =>
    (R fn1193 [t36, t37, t40, t41, t42] h_3).bind fun p43 =>
    (some ((nth 1 ds_2) : D)).bind fun t44 =>
    (some (t44 : D)).bind fun t7_3 =>
    (some ((nth 1 ds_2) : D)).bind fun t45 =>
    (some ((nth 0 ds_1) : D)).bind fun t46 =>
    (dBin tab .mul ty3 (.int .i64 2) t46).bind fun t47 =>
    (dBin tab .add ty3 t45 t47).bind fun t48 =>
    (some (t48 : D)).bind fun t8_3 =>
    some (.nrm, [t7_3, t8_3, t35], p43.2))
      (some ((.ext 4), [(nth 0 ds_2), (nth 1 ds_2), t35], h_3))
/-- a loop: slots 6 7 8 9 30 35 54 -/
noncomputable def F1188_L1 (t0 : D) (t1 : D) (t2 : D) (ds_1 : List D) (h_2 : Hp) : Option Out :=
    (some ((nth 0 ds_1) : D)).bind fun t28 =>
    (some (t1 : D)).bind fun t29 =>
    (dBin tab .lss ty3 t28 t29).bind fun t30 =>
    dIf t30
      ((some ((nth 0 ds_1) : D)).bind fun t31 =>
    (dBin tab .mul ty3 (.int .i64 2) t31).bind fun t32 =>
    (some (.int .i64 0 : D)).bind fun t7_2 =>
    (some (t32 : D)).bind fun t8_2 =>
    ((loopW (F1188_L2 t0 t1 t2 ds_1) [t7_2, t8_2, (nth 5 ds_1)] h_2).bind fun r_3 =>
      some ((unblk 4 r_3.1), [(nth 0 r_3.2.1), (nth 1 r_3.2.1), (nth 2 r_3.2.1)], r_3.2.2)).bind fun r_4 =>
    toEnd r_4.1 ((some ((nth 0 r_4.2.1) : D)).bind fun t49 =>
    (some ((nth 0 ds_1) : D)).bind fun t50 =>
    (dBin tab .add ty3 t49 t50).bind fun t51 =>
    (some (t51 : D)).bind fun t9 =>
    (some (t9 : D)).bind fun t52 =>
    (some (t1 : D)).bind fun t53 =>
    (dBin tab .lss ty3 t52 t53).bind fun t54 =>
    (dIf t54
      ((some (t0 : D)).bind fun t55 =>
      (some ((nth 0 r_4.2.1) : D)).bind fun t56 =>
      (some (t9 : D)).bind fun t57 =>
      (some (t1 : D)).bind fun t58 =>
      (some (t2 : D)).bind fun t59 =>
      (R fn1193 [t55, t56, t57, t58, t59] r_4.2.2).bind fun p60 =>
      some (.nrm, ([] : List D), p60.2))
      (some (.nrm, ([] : List D), r_4.2.2))).bind fun r_5 =>
    toEnd r_5.1 ((some ((nth 0 ds_1) : D)).bind fun t61 =>
    (dBin tab .mul ty3 t61 (.int .i64 2)).bind fun t62 =>
    (some (t62 : D)).bind fun t6_1 =>
    some (.nrm, [t6_1, (nth 0 r_4.2.1), (nth 1 r_4.2.1), t9, t30, (nth 2 r_4.2.1), t54], r_5.2.2)) fun x_2 => some ((unblk 3 x_2), [(nth 0 ds_1), (nth 0 r_4.2.1), (nth 1 r_4.2.1), t9, t30, (nth 2 r_4.2.1), t54], r_5.2.2)) fun x_1 => some ((unblk 3 x_1), [(nth 0 ds_1), (nth 0 r_4.2.1), (nth 1 r_4.2.1), (nth 3 ds_1), t30, (nth 2 r_4.2.1), (nth 6 ds_1)], r_4.2.2))
      (some ((.ext 2), [(nth 0 ds_1), (nth 1 ds_1), (nth 2 ds_1), (nth 3 ds_1), t30, (nth 5 ds_1), (nth 6 ds_1)], h_2))
noncomputable def F1188 (t0 : D) (t1 : D) (t2 : D) (h : Hp) : Option (D × Hp) :=
  (some (.int .i64 20 : D)).bind fun t6 =>
  (some (t6 : D)).bind fun t10 =>
  (some (.int .i64 0 : D)).bind fun t7 =>
  (some (t10 : D)).bind fun t8 =>
  ((loopW (F1188_L0 t0 t1 t2 t6) [t7, t8, .any] h).bind fun r =>
    some ((unblk 0 r.1), [(nth 0 r.2.1), (nth 1 r.2.1), (nth 2 r.2.1)], r.2.2)).bind fun r_1 =>
  toEnd r_1.1 ((some (t0 : D)).bind fun t23 =>
  (some ((nth 0 r_1.2.1) : D)).bind fun t24 =>
  (some (t1 : D)).bind fun t25 =>
  (some (t2 : D)).bind fun t26 =>
  (R fn1192 [t23, t24, t25, t26] r_1.2.2).bind fun p27 =>
  ((loopW (F1188_L1 t0 t1 t2) [t6, (nth 0 r_1.2.1), (nth 1 r_1.2.1), .any, .any, .any, .any] p27.2).bind fun r_2 =>
    some ((unblk 2 r_2.1), [(nth 0 r_2.2.1), (nth 1 r_2.2.1), (nth 2 r_2.2.1), (nth 3 r_2.2.1), (nth 4 r_2.2.1), (nth 5 r_2.2.1), (nth 6 r_2.2.1)], r_2.2.2)).bind fun r_6 =>
  exEnd r_6.1 ((some ([] : List D)).bind fun ds => some (mkRes ds, r_6.2.2))) fun x => exEnd x ((some ([] : List D)).bind fun ds => some (mkRes ds, r_1.2.2))
theorem e1188 (t0 : D) (t1 : D) (t2 : D) (h : Hp) : R fn1188 [t0, t1, t2] h = F1188 t0 t1 t2 h :=
  (run_fn (X := X) (F := Fs) (fi := i35) (by kernel_rfl) _ _).trans (by kernel_rfl)
noncomputable def F99 (t0 : D) (h : Hp) : Option (D × Hp) :=
  (some (.bool false : D)).bind fun t2 =>
  (some (t0 : D)).bind fun t3 =>
  (some (t0 : D)).bind fun t4 =>
  (dBin tab .neq ty3 t3 t4).bind fun t5 =>
  (some (t5 : D)).bind fun t2_1 =>
  ((some (t2_1 : D)).bind fun d => (some ([] : List D)).bind fun ds => some (d :: ds)).bind fun ds => some (mkRes ds, h)
theorem e99 (t0 : D) (h : Hp) : R fn99 [t0] h = F99 t0 h :=
  (run_fn (X := X) (F := Fs) (fi := i36) (by kernel_rfl) _ _).trans (by kernel_rfl)
/-- a loop: slots 4 5 6 7 8 11 12 19 28 -/
noncomputable def F1189_L0 (t1 : D) (t9 : D) (t10 : D) (ds : List D) (h_1 : Hp) : Option Out :=
    (dBin tab .lss ty3 (nth 5 ds) t10).bind fun t12 =>
    dIf t12
      ((some ((nth 5 ds) : D)).bind fun t13 =>
    (dIndexAddr tab ty98 t9 (nth 5 ds)).bind fun t14 =>
    (dLoad tab h_1 ty9 t14).bind fun t15 =>
    (some (t13 : D)).bind fun t5 =>
    (some (t15 : D)).bind fun t6 =>
    (some (t5 : D)).bind fun t16 =>
    (some (t1 : D)).bind fun t17 =>
    (dLenT tab ty98 t17).bind fun t18 =>
    (dBin tab .geq ty3 t16 t18).bind fun t19 =>
    dIf t19
      ((some (.int .i64 1 : D)).bind fun t4_1 =>
      some (.ret, [t4_1, t5, t6, (nth 3 ds), (nth 4 ds), (nth 5 ds), t12, t19, (nth 8 ds)], h_1))
      ((some (t1 : D)).bind fun t20 =>
    (some (t5 : D)).bind fun t21 =>
    (dIndexAddr tab ty98 t20 t21).bind fun t22 =>
    (dLoad tab h_1 ty9 t22).bind fun t23 =>
    (some (t23 : D)).bind fun t7 =>
    (some (t6 : D)).bind fun t24 =>
    (some (t7 : D)).bind fun t25 =>
    (R fn91 [t24, t25] h_1).bind fun p26 =>
    (some (p26.1 : D)).bind fun t8 =>
    (some (t8 : D)).bind fun t27 =>
    (dBin tab .neq ty3 t27 (.int .i64 0)).bind fun t28 =>
    dIf t28
      ((some (t8 : D)).bind fun t29 =>
      (some (t29 : D)).bind fun t4_2 =>
      some (.ret, [t4_2, t5, t6, t7, t8, (nth 5 ds), t12, t19, t28], p26.2))
      ((dBin tab .add ty3 (nth 5 ds) (.int .i64 1)).bind fun t30 =>
    (some (t30 : D)).bind fun t11_1 =>
    some (.nrm, [(nth 0 ds), t5, t6, t7, t8, t11_1, t12, t19, t28], p26.2))))
      (some ((.ext 0), [(nth 0 ds), (nth 1 ds), (nth 2 ds), (nth 3 ds), (nth 4 ds), (nth 5 ds), t12, (nth 7 ds), (nth 8 ds)], h_1))
noncomputable def F1189 (t0 : D) (t1 : D) (h : Hp) : Option (D × Hp) :=
  (some (.int .i64 0 : D)).bind fun t4 =>
  (some (t0 : D)).bind fun t9 =>
  (dLenT tab ty98 t9).bind fun t10 =>
  (some (.int .i64 0 : D)).bind fun t11 =>
  ((loopW (F1189_L0 t1 t9 t10) [t4, .any, .any, .any, .any, t11, .any, .any, .any] h).bind fun r =>
    some ((unblk 0 r.1), [(nth 0 r.2.1), (nth 1 r.2.1), (nth 2 r.2.1), (nth 3 r.2.1), (nth 4 r.2.1), (nth 5 r.2.1), (nth 6 r.2.1), (nth 7 r.2.1), (nth 8 r.2.1)], r.2.2)).bind fun r_1 =>
  toEnd r_1.1 ((some (t0 : D)).bind fun t31 =>
  (dLenT tab ty98 t31).bind fun t32 =>
  (some (t1 : D)).bind fun t33 =>
  (dLenT tab ty98 t33).bind fun t34 =>
  (dBin tab .lss ty3 t32 t34).bind fun t35 =>
  dIf t35
    ((some (.int .i64 (-1) : D)).bind fun t4_3 =>
    ((some (t4_3 : D)).bind fun d => (some ([] : List D)).bind fun ds => some (d :: ds)).bind fun ds => some (mkRes ds, r_1.2.2))
    ((some (.int .i64 0 : D)).bind fun t4_4 =>
  ((some (t4_4 : D)).bind fun d => (some ([] : List D)).bind fun ds => some (d :: ds)).bind fun ds => some (mkRes ds, r_1.2.2))) fun x => exEnd x (((some ((nth 0 r_1.2.1) : D)).bind fun d => (some ([] : List D)).bind fun ds => some (d :: ds)).bind fun ds => some (mkRes ds, r_1.2.2))
theorem e1189 (t0 : D) (t1 : D) (h : Hp) : R fn1189 [t0, t1] h = F1189 t0 t1 h :=
  (run_fn (X := X) (F := Fs) (fi := i37) (by kernel_rfl) _ _).trans (by kernel_rfl)
/-- a loop: slots 10 11 12 13 24 -/
noncomputable def F84_L0 (t0 : D) (p9 : D × Hp) (ds : List D) (h_1 : Hp) : Option Out :=
    (some ((nth 1 ds) : D)).bind fun t23 =>
    (dBin tab .gtr ty3 t23 (.int .i64 0)).bind fun t24 =>
    dIf t24
      ((some (t0 : D)).bind fun t27 =>
    (R fn96 [t27] h_1).bind fun p28 =>
    (some (p28.1 : D)).bind fun t12 =>
    (some (t12 : D)).bind fun t29 =>
    (dLenT tab ty9 t29).bind fun t30 =>
    (dBin tab .add ty3 t30 (.int .i64 1)).bind fun t31 =>
    (some (t0 : D)).bind fun t32 =>
    (R fn24 [t32, .int .i64 2] p28.2).bind fun p33 =>
    (dBin tab .add ty3 t31 p33.1).bind fun t34 =>
    (some (t34 : D)).bind fun t13 =>
    (dFieldAddr tab ty31 4 p9.1).bind fun t35 =>
    (dLoad tab p33.2 ty28 t35).bind fun t36 =>
    (some ((nth 0 ds) : D)).bind fun t37 =>
    (some (t13 : D)).bind fun t38 =>
    (some (t12 : D)).bind fun t39 =>
    (dBuild tab ty78 [0, 1, 2] [t37, t38, t39]).bind fun t40 =>
    (pLitF tab ty28 1 [0] [t40]).bind fun t41 =>
    (dAppend tab p33.2 ty28 ty28 t36 t41).bind fun p42 =>
    (dFieldAddr tab ty31 4 p9.1).bind fun t43 =>
    ((dStore tab p42.2 ty28 t43 p42.1).bind fun h' => some ((.und : D), h')).bind fun p909 =>
    (some ((nth 0 ds) : D)).bind fun t44 =>
    (some (t13 : D)).bind fun t45 =>
    (dBin tab .add ty3 t44 t45).bind fun t46 =>
    (some (t46 : D)).bind fun t10_1 =>
    (some ((nth 1 ds) : D)).bind fun t25 =>
    (dBin tab .sub ty3 t25 (.int .i64 1)).bind fun t26 =>
    (some (t26 : D)).bind fun t11_1 =>
    some (.nrm, [t10_1, t11_1, t12, t13, t24], p909.2))
      (some ((.ext 0), [(nth 0 ds), (nth 1 ds), (nth 2 ds), (nth 3 ds), t24], h_1))
/-- a loop: slots 14 56 -/
noncomputable def F84_L1 (p9 : D × Hp) (ds_1 : List D) (h_2 : Hp) : Option Out :=
    (some ((nth 0 ds_1) : D)).bind fun t52 =>
    (dFieldAddr tab ty31 4 p9.1).bind fun t53 =>
    (dLoad tab h_2 ty28 t53).bind fun t54 =>
    (dLenT tab ty28 t54).bind fun t55 =>
    (dBin tab .lss ty3 t52 t55).bind fun t56 =>
    dIf t56
      ((dFieldAddr tab ty31 4 p9.1).bind fun t59 =>
    (dLoad tab h_2 ty28 t59).bind fun t60 =>
    (some ((nth 0 ds_1) : D)).bind fun t61 =>
    (dIndexAddr tab ty28 t60 t61).bind fun t62 =>
    (dFieldAddr tab ty78 2 t62).bind fun t63 =>
    ((dStore tab h_2 ty9 t63 (.str [])).bind fun h' => some ((.und : D), h')).bind fun p905_1 =>
    (some ((nth 0 ds_1) : D)).bind fun t57 =>
    (dBin tab .add ty3 t57 (.int .i64 1)).bind fun t58 =>
    (some (t58 : D)).bind fun t14_1 =>
    some (.nrm, [t14_1, t56], p905_1.2))
      (some ((.ext 2), [(nth 0 ds_1), t56], h_2))
noncomputable def F84 (t0 : D) (t1 : D) (t2 : D) (t3 : D) (h : Hp) : Option (D × Hp) :=
  (some ((.ptr h.length 0 0 : D), dNew h ty74 11 [[.str [], .int .i64 0, .int .i64 0, .int .i64 0, .int .i64 0, .nils, .int .i64 0, .int .i64 0, .str [], .str [], .nils]])).bind fun p8 =>
  (some (t1 : D)).bind fun t15 =>
  (some (t2 : D)).bind fun t16 =>
  (some (t3 : D)).bind fun t17 =>
  (dBuild tab ty31 [0, 1, 2] [t15, t16, t17]).bind fun t18 =>
  (some ((.ptr p8.2.length 0 0 : D), dNew p8.2 ty31 10 [[.int .i64 0, .int .i64 0, .int .i64 0, .int .i64 0, .nils, .int .i64 0, .int .i64 0, .str [], .str [], .nils]])).bind fun p9 =>
  ((dStore tab p9.2 ty31 p9.1 t18).bind fun h' => some ((.und : D), h')).bind fun p905 =>
  (some (t3 : D)).bind fun t19 =>
  (some (t19 : D)).bind fun t10 =>
  (some (t0 : D)).bind fun t20 =>
  (R fn24 [t20, .int .i64 3] p905.2).bind fun p21 =>
  (dBin tab .add ty3 (.int .i64 1) p21.1).bind fun t22 =>
  (some (t22 : D)).bind fun t11 =>
  ((loopW (F84_L0 t0 p9) [t10, t11, .any, .any, .any] p21.2).bind fun r =>
    some ((unblk 0 r.1), [(nth 0 r.2.1), (nth 1 r.2.1), (nth 2 r.2.1), (nth 3 r.2.1), (nth 4 r.2.1)], r.2.2)).bind fun r_1 =>
  toEnd r_1.1 ((some ((nth 0 r_1.2.1) : D)).bind fun t47 =>
  (dFieldAddr tab ty31 3 p9.1).bind fun t48 =>
  ((dStore tab r_1.2.2 ty3 t48 t47).bind fun h' => some ((.und : D), h')).bind fun p902 =>
  (some (t0 : D)).bind fun t49 =>
  (R fn24 [t49, .int .i64 5] p902.2).bind fun p50 =>
  (dBin tab .eql ty3 p50.1 (.int .i64 4)).bind fun t51 =>
  dIf t51
    ((some (.int .i64 0 : D)).bind fun t14 =>
    ((loopW (F84_L1 p9) [t14, .any] p50.2).bind fun r_2 =>
      some ((unblk 2 r_2.1), [(nth 0 r_2.2.1), (nth 1 r_2.2.1)], r_2.2.2)).bind fun r_3 =>
    toEnd r_3.1 ((pLitF tab ty98 3 [0, 1, 2] [.str [115, 97, 109, 112, 108, 101], .str [100, 114, 111, 112], .str [116, 111, 111, 45, 108, 111, 110, 103]]).bind fun t64 =>
    (some (t0 : D)).bind fun t65 =>
    (R fn24 [t65, .int .i64 3] r_3.2.2).bind fun p66 =>
    (dIndexAddr tab ty98 t64 p66.1).bind fun t67 =>
    (dLoad tab p66.2 ty9 t67).bind fun t68 =>
    (dLoad tab p66.2 ty31 p9.1).bind fun t69 =>
    (dBuild tab ty74 [0, 1] [t68, t69]).bind fun t70 =>
    chk (dLoad tab r_3.2.2 ty31 p9.1 = some t69)
    (((dStore tab p66.2 ty74 p8.1 t70).bind fun h' => some ((.und : D), h')).bind fun p907 =>
    ((some (p8.1 : D)).bind fun p => (dLoad tab p907.2 ty74 p).bind fun d => (some ([] : List D)).bind fun ds => some (d :: ds)).bind fun ds => scope h p907.2 (mkRes ds))) fun x_1 => toEnd x_1 ((some (t0 : D)).bind fun t71 =>
  (R fn35 [t71] r_3.2.2).bind fun p72 =>
  (some (t0 : D)).bind fun t73 =>
  (R fn97 [t73] p72.2).bind fun p74 =>
  (dFieldAddr tab ty31 5 p9.1).bind fun t75 =>
  ((dStore tab p74.2 ty3 t75 p72.1).bind fun h' => some ((.und : D), h')).bind fun p905_2 =>
  (dFieldAddr tab ty31 6 p9.1).bind fun t76 =>
  ((dStore tab p905_2.2 ty3 t76 p74.1).bind fun h' => some ((.und : D), h')).bind fun p907_1 =>
  (pLitF tab ty98 4 [0, 1, 2, 3] [.str [116, 49], .str [116, 50], .str [], .str [49, 58, 50, 58, 48]]).bind fun t77 =>
  (some (t0 : D)).bind fun t78 =>
  (R fn24 [t78, .int .i64 4] p907_1.2).bind fun p79 =>
  (dIndexAddr tab ty98 t77 p79.1).bind fun t80 =>
  (dLoad tab p79.2 ty9 t80).bind fun t81 =>
  (pLitF tab ty98 2 [0, 1] [.str [109, 97, 105, 110], .str [100, 101, 98, 117, 103]]).bind fun t82 =>
  (some (t0 : D)).bind fun t83 =>
  (R fn24 [t83, .int .i64 2] p79.2).bind fun p84 =>
  (dIndexAddr tab ty98 t82 p84.1).bind fun t85 =>
  (dLoad tab p84.2 ty9 t85).bind fun t86 =>
  (dFieldAddr tab ty31 7 p9.1).bind fun t87 =>
  ((dStore tab p84.2 ty9 t87 t81).bind fun h' => some ((.und : D), h')).bind fun p911 =>
  chk (dLoad tab p84.2 ty9 t80 = some t81)
  (chk (dLoad tab p911.2 ty9 t85 = some t86)
  ((dFieldAddr tab ty31 8 p9.1).bind fun t88 =>
  ((dStore tab p911.2 ty9 t88 t86).bind fun h' => some ((.und : D), h')).bind fun p913 =>
  (some (t0 : D)).bind fun t89 =>
  (R fn98 [t89] p913.2).bind fun p90 =>
  (dFieldAddr tab ty31 9 p9.1).bind fun t91 =>
  ((dStore tab p90.2 ty29 t91 p90.1).bind fun h' => some ((.und : D), h')).bind fun p903 =>
  (dLoad tab p903.2 ty31 p9.1).bind fun t92 =>
  (dBuild tab ty74 [1] [t92]).bind fun t93 =>
  ((dStore tab p903.2 ty74 p8.1 t93).bind fun h' => some ((.und : D), h')).bind fun p902_1 =>
  ((some (p8.1 : D)).bind fun p => (dLoad tab p902_1.2 ty74 p).bind fun d => (some ([] : List D)).bind fun ds => some (d :: ds)).bind fun ds => scope h p902_1.2 (mkRes ds)))) fun x_2 => exEnd x_2 (((some (p8.1 : D)).bind fun p => (dLoad tab r_3.2.2 ty74 p).bind fun d => (some ([] : List D)).bind fun ds => some (d :: ds)).bind fun ds => scope h r_3.2.2 (mkRes ds)))
    ((some (t0 : D)).bind fun t71_1 =>
  (R fn35 [t71_1] p50.2).bind fun p72_1 =>
  (some (t0 : D)).bind fun t73_1 =>
  (R fn97 [t73_1] p72_1.2).bind fun p74_1 =>
  (dFieldAddr tab ty31 5 p9.1).bind fun t75_1 =>
  ((dStore tab p74_1.2 ty3 t75_1 p72_1.1).bind fun h' => some ((.und : D), h')).bind fun p905_3 =>
  (dFieldAddr tab ty31 6 p9.1).bind fun t76_1 =>
  ((dStore tab p905_3.2 ty3 t76_1 p74_1.1).bind fun h' => some ((.und : D), h')).bind fun p907_2 =>
  (pLitF tab ty98 4 [0, 1, 2, 3] [.str [116, 49], .str [116, 50], .str [], .str [49, 58, 50, 58, 48]]).bind fun t77_1 =>
  (some (t0 : D)).bind fun t78_1 =>
  (R fn24 [t78_1, .int .i64 4] p907_2.2).bind fun p79_1 =>
  (dIndexAddr tab ty98 t77_1 p79_1.1).bind fun t80_1 =>
  (dLoad tab p79_1.2 ty9 t80_1).bind fun t81_1 =>
  (pLitF tab ty98 2 [0, 1] [.str [109, 97, 105, 110], .str [100, 101, 98, 117, 103]]).bind fun t82_1 =>
  (some (t0 : D)).bind fun t83_1 =>
  (R fn24 [t83_1, .int .i64 2] p79_1.2).bind fun p84_1 =>
  (dIndexAddr tab ty98 t82_1 p84_1.1).bind fun t85_1 =>
  (dLoad tab p84_1.2 ty9 t85_1).bind fun t86_1 =>
  (dFieldAddr tab ty31 7 p9.1).bind fun t87_1 =>
  ((dStore tab p84_1.2 ty9 t87_1 t81_1).bind fun h' => some ((.und : D), h')).bind fun p911_1 =>
  chk (dLoad tab p84_1.2 ty9 t80_1 = some t81_1)
  (chk (dLoad tab p911_1.2 ty9 t85_1 = some t86_1)
  ((dFieldAddr tab ty31 8 p9.1).bind fun t88_1 =>
  ((dStore tab p911_1.2 ty9 t88_1 t86_1).bind fun h' => some ((.und : D), h')).bind fun p913_1 =>
  (some (t0 : D)).bind fun t89_1 =>
  (R fn98 [t89_1] p913_1.2).bind fun p90_1 =>
  (dFieldAddr tab ty31 9 p9.1).bind fun t91_1 =>
  ((dStore tab p90_1.2 ty29 t91_1 p90_1.1).bind fun h' => some ((.und : D), h')).bind fun p903_1 =>
  (dLoad tab p903_1.2 ty31 p9.1).bind fun t92_1 =>
  (dBuild tab ty74 [1] [t92_1]).bind fun t93_1 =>
  ((dStore tab p903_1.2 ty74 p8.1 t93_1).bind fun h' => some ((.und : D), h')).bind fun p902_2 =>
  ((some (p8.1 : D)).bind fun p => (dLoad tab p902_2.2 ty74 p).bind fun d => (some ([] : List D)).bind fun ds => some (d :: ds)).bind fun ds => scope h p902_2.2 (mkRes ds))))) fun x => exEnd x (((some (p8.1 : D)).bind fun p => (dLoad tab r_1.2.2 ty74 p).bind fun d => (some ([] : List D)).bind fun ds => some (d :: ds)).bind fun ds => scope h r_1.2.2 (mkRes ds))
theorem e84 (t0 : D) (t1 : D) (t2 : D) (t3 : D) (h : Hp) : R fn84 [t0, t1, t2, t3] h = F84 t0 t1 t2 t3 h :=
  (run_fn (X := X) (F := Fs) (fi := i38) (by kernel_rfl) _ _).trans (by kernel_rfl)
noncomputable def F85 (t0 : D) (t1 : D) (h : Hp) : Option (D × Hp) :=
  (pBoxF t0).bind fun t2 =>
  (pBoxF t1).bind fun t3 =>
  (some (.bool false : D)).bind fun t4 =>
  (dFieldAddr tab ty31 5 t2).bind fun t6 =>
  (dLoad tab h ty3 t6).bind fun t7 =>
  (dFieldAddr tab ty31 5 t3).bind fun t8 =>
  (dLoad tab h ty3 t8).bind fun t9 =>
  (dBin tab .neq ty3 t7 t9).bind fun t10 =>
  (some (t10 : D)).bind fun t5 =>
  dIf t5
    ((dFieldAddr tab ty31 5 t2).bind fun t11 =>
    (dLoad tab h ty3 t11).bind fun t12 =>
    (dFieldAddr tab ty31 5 t3).bind fun t13 =>
    (dLoad tab h ty3 t13).bind fun t14 =>
    (dBin tab .lss ty3 t12 t14).bind fun t15 =>
    (some (t15 : D)).bind fun t4_1 =>
    ((some (t4_1 : D)).bind fun d => (some ([] : List D)).bind fun ds => some (d :: ds)).bind fun ds => some (mkRes ds, h))
    ((dFieldAddr tab ty31 0 t2).bind fun t17 =>
    (dLoad tab h ty3 t17).bind fun t18 =>
    (dFieldAddr tab ty31 0 t3).bind fun t19 =>
    (dLoad tab h ty3 t19).bind fun t20 =>
    (dBin tab .neq ty3 t18 t20).bind fun t21 =>
    (some (t21 : D)).bind fun t16 =>
    dIf t16
      ((dFieldAddr tab ty31 0 t2).bind fun t22 =>
      (dLoad tab h ty3 t22).bind fun t23 =>
      (dFieldAddr tab ty31 0 t3).bind fun t24 =>
      (dLoad tab h ty3 t24).bind fun t25 =>
      (dBin tab .lss ty3 t23 t25).bind fun t26 =>
      (some (t26 : D)).bind fun t4_2 =>
      ((some (t4_2 : D)).bind fun d => (some ([] : List D)).bind fun ds => some (d :: ds)).bind fun ds => some (mkRes ds, h))
      ((dFieldAddr tab ty31 1 t2).bind fun t28 =>
      (dLoad tab h ty3 t28).bind fun t29 =>
      (dFieldAddr tab ty31 1 t3).bind fun t30 =>
      (dLoad tab h ty3 t30).bind fun t31 =>
      (dBin tab .neq ty3 t29 t31).bind fun t32 =>
      (some (t32 : D)).bind fun t27 =>
      dIf t27
        ((dFieldAddr tab ty31 1 t2).bind fun t33 =>
        (dLoad tab h ty3 t33).bind fun t34 =>
        (dFieldAddr tab ty31 1 t3).bind fun t35 =>
        (dLoad tab h ty3 t35).bind fun t36 =>
        (dBin tab .lss ty3 t34 t36).bind fun t37 =>
        (some (t37 : D)).bind fun t4_3 =>
        ((some (t4_3 : D)).bind fun d => (some ([] : List D)).bind fun ds => some (d :: ds)).bind fun ds => some (mkRes ds, h))
        ((dFieldAddr tab ty31 2 t2).bind fun t38 =>
  (dLoad tab h ty3 t38).bind fun t39 =>
  (dFieldAddr tab ty31 2 t3).bind fun t40 =>
  (dLoad tab h ty3 t40).bind fun t41 =>
  (dBin tab .lss ty3 t39 t41).bind fun t42 =>
  (some (t42 : D)).bind fun t4_4 =>
  ((some (t4_4 : D)).bind fun d => (some ([] : List D)).bind fun ds => some (d :: ds)).bind fun ds => some (mkRes ds, h))))
theorem e85 (t0 : D) (t1 : D) (h : Hp) : R fn85 [t0, t1] h = F85 t0 t1 h :=
  (run_fn (X := X) (F := Fs) (fi := i39) (by kernel_rfl) _ _).trans (by kernel_rfl)
/-- a loop: slots 7 8 9 10 20 32 37 59 71 -/
noncomputable def F1190_L0 (t0 : D) (t1 : D) (t2 : D) (ds : List D) (h_1 : Hp) : Option Out :=
    (some ((nth 1 ds) : D)).bind fun t11 =>
    (some (t1 : D)).bind fun t12 =>
    (dLenT tab ty1156 t12).bind fun t13 =>
    (dBin tab .lss ty3 t11 t13).bind fun t14 =>
    (some (t14 : D)).bind fun t15 =>
    (gd t15 false (some ((nth 2 ds) : D))).bind fun t16 =>
    (gd t15 false (some (t2 : D))).bind fun t17 =>
    (gd t15 false (dLenT tab ty1156 t17)).bind fun t18 =>
    (gd t15 false (dBin tab .lss ty3 t16 t18)).bind fun t19 =>
    (dPick t15 (.bool true) t19).bind fun t20 =>
    dIf t20
      ((some (.int .i64 0 : D)).bind fun t10 =>
    (some ((nth 2 ds) : D)).bind fun t33 =>
    (some (t2 : D)).bind fun t34 =>
    (dLenT tab ty1156 t34).bind fun t35 =>
    (dBin tab .eql ty3 t33 t35).bind fun t36 =>
    (some (t36 : D)).bind fun t32 =>
    (dIf t32
      ((some (.int .i64 (-1) : D)).bind fun t10_1 =>
      some (.nrm, [t10_1, (nth 6 ds)], h_1))
      ((some ((nth 1 ds) : D)).bind fun t38 =>
      (some (t1 : D)).bind fun t39 =>
      (dLenT tab ty1156 t39).bind fun t40 =>
      (dBin tab .eql ty3 t38 t40).bind fun t41 =>
      (some (t41 : D)).bind fun t37 =>
      (dIf t37
        ((some (.int .i64 1 : D)).bind fun t10_2 =>
        some (.nrm, [t10_2], h_1))
        ((some (t1 : D)).bind fun t21 =>
        (some ((nth 1 ds) : D)).bind fun t22 =>
        (dIndexAddr tab ty1156 t21 t22).bind fun t23 =>
        (dFieldAddr tab ty1168 0 t23).bind fun t24 =>
        (dLoad tab h_1 ty98 t24).bind fun t25 =>
        (some (t2 : D)).bind fun t26 =>
        (some ((nth 2 ds) : D)).bind fun t27 =>
        (dIndexAddr tab ty1156 t26 t27).bind fun t28 =>
        (dFieldAddr tab ty1168 0 t28).bind fun t29 =>
        (dLoad tab h_1 ty98 t29).bind fun t30 =>
        (R fn1185 [t25, t30] h_1).bind fun p31 =>
        (some (p31.1 : D)).bind fun t10_3 =>
        some (.nrm, [t10_3], p31.2))).bind fun r_1 =>
      some (r_1.1, [(nth 0 r_1.2.1), t37], r_1.2.2))).bind fun r_2 =>
    toEnd (unblk 2 r_2.1) ((some ((nth 0 r_2.2.1) : D)).bind fun t60 =>
    (dBin tab .lss ty3 t60 (.int .i64 0)).bind fun t61 =>
    (some (t61 : D)).bind fun t59 =>
    (dIf t59
      ((some ((nth 0 ds) : D)).bind fun t62 =>
      (some (t1 : D)).bind fun t63 =>
      (some ((nth 1 ds) : D)).bind fun t64 =>
      (dIndexAddr tab ty1156 t63 t64).bind fun t65 =>
      (dLoad tab r_2.2.2 ty1168 t65).bind fun t66 =>
      (pLitF tab ty1156 1 [0] [t66]).bind fun t67 =>
      (dAppend tab r_2.2.2 ty1156 ty1156 t62 t67).bind fun p68 =>
      (some (p68.1 : D)).bind fun t7_1 =>
      (some ((nth 1 ds) : D)).bind fun t69 =>
      (dBin tab .add ty3 t69 (.int .i64 1)).bind fun t70 =>
      (some (t70 : D)).bind fun t8_1 =>
      some (.nrm, [t7_1, t8_1, (nth 2 ds), (nth 8 ds)], p68.2))
      ((some ((nth 0 r_2.2.1) : D)).bind fun t72 =>
      (dBin tab .gtr ty3 t72 (.int .i64 0)).bind fun t73 =>
      (some (t73 : D)).bind fun t71 =>
      (dIf t71
        ((some ((nth 0 ds) : D)).bind fun t74 =>
        (some (t2 : D)).bind fun t75 =>
        (some ((nth 2 ds) : D)).bind fun t76 =>
        (dIndexAddr tab ty1156 t75 t76).bind fun t77 =>
        (dLoad tab r_2.2.2 ty1168 t77).bind fun t78 =>
        (pLitF tab ty1156 1 [0] [t78]).bind fun t79 =>
        (dAppend tab r_2.2.2 ty1156 ty1156 t74 t79).bind fun p80 =>
        (some (p80.1 : D)).bind fun t7_2 =>
        (some ((nth 2 ds) : D)).bind fun t81 =>
        (dBin tab .add ty3 t81 (.int .i64 1)).bind fun t82 =>
        (some (t82 : D)).bind fun t9_1 =>
        some (.nrm, [t7_2, (nth 1 ds), t9_1], p80.2))
        ((some ((nth 0 ds) : D)).bind fun t42 =>
        (some (t0 : D)).bind fun t43 =>
        (some (t1 : D)).bind fun t44 =>
        (some ((nth 1 ds) : D)).bind fun t45 =>
        (dIndexAddr tab ty1156 t44 t45).bind fun t46 =>
        (dLoad tab r_2.2.2 ty1168 t46).bind fun t47 =>
        (some (t2 : D)).bind fun t48 =>
        (some ((nth 2 ds) : D)).bind fun t49 =>
        (dIndexAddr tab ty1156 t48 t49).bind fun t50 =>
        (dLoad tab r_2.2.2 ty1168 t50).bind fun t51 =>
        (R fn1194 [t43, t47, t51] r_2.2.2).bind fun p52 =>
        (pLitF tab ty1156 1 [0] [p52.1]).bind fun t53 =>
        (dAppend tab p52.2 ty1156 ty1156 t42 t53).bind fun p54 =>
        (some (p54.1 : D)).bind fun t7_3 =>
        (some ((nth 1 ds) : D)).bind fun t55 =>
        (dBin tab .add ty3 t55 (.int .i64 1)).bind fun t56 =>
        (some (t56 : D)).bind fun t8_2 =>
        (some ((nth 2 ds) : D)).bind fun t57 =>
        (dBin tab .add ty3 t57 (.int .i64 1)).bind fun t58 =>
        (some (t58 : D)).bind fun t9_2 =>
        some (.nrm, [t7_3, t8_2, t9_2], p54.2))).bind fun r_3 =>
      some (r_3.1, [(nth 0 r_3.2.1), (nth 1 r_3.2.1), (nth 2 r_3.2.1), t71], r_3.2.2))).bind fun r_4 =>
    some ((unblk 1 (unblk 3 r_4.1)), [(nth 0 r_4.2.1), (nth 1 r_4.2.1), (nth 2 r_4.2.1), (nth 0 r_2.2.1), t20, t32, (nth 1 r_2.2.1), t59, (nth 3 r_4.2.1)], r_4.2.2)) fun x => some ((unblk 1 x), [(nth 0 ds), (nth 1 ds), (nth 2 ds), (nth 0 r_2.2.1), t20, t32, (nth 1 r_2.2.1), (nth 7 ds), (nth 8 ds)], r_2.2.2))
      (some ((.ext 0), [(nth 0 ds), (nth 1 ds), (nth 2 ds), (nth 3 ds), t20, (nth 5 ds), (nth 6 ds), (nth 7 ds), (nth 8 ds)], h_1))
noncomputable def F1190 (t0 : D) (t1 : D) (t2 : D) (h : Hp) : Option (D × Hp) :=
  (some (.nils : D)).bind fun t6 =>
  (some (.nils : D)).bind fun t7 =>
  (some (.int .i64 0 : D)).bind fun t8 =>
  (some (.int .i64 0 : D)).bind fun t9 =>
  ((loopW (F1190_L0 t0 t1 t2) [t7, t8, t9, .any, .any, .any, .any, .any, .any] h).bind fun r =>
    some ((unblk 0 r.1), [(nth 0 r.2.1), (nth 1 r.2.1), (nth 2 r.2.1), (nth 3 r.2.1), (nth 4 r.2.1), (nth 5 r.2.1), (nth 6 r.2.1), (nth 7 r.2.1), (nth 8 r.2.1)], r.2.2)).bind fun r_5 =>
  toEnd r_5.1 ((some ((nth 0 r_5.2.1) : D)).bind fun t83 =>
  (some (t83 : D)).bind fun t6_1 =>
  ((some (t6_1 : D)).bind fun d => (some ([] : List D)).bind fun ds => some (d :: ds)).bind fun ds => scope h r_5.2.2 (mkRes ds)) fun x_1 => exEnd x_1 (((some (t6 : D)).bind fun d => (some ([] : List D)).bind fun ds => some (d :: ds)).bind fun ds => scope h r_5.2.2 (mkRes ds))
theorem e1190 (t0 : D) (t1 : D) (t2 : D) (h : Hp) : R fn1190 [t0, t1, t2] h = F1190 t0 t1 t2 h :=
  (run_fn (X := X) (F := Fs) (fi := i40) (by kernel_rfl) _ _).trans (by kernel_rfl)
/-- a loop: slots 8 9 10 11 12 13 14 15 16 24 39 40 44 51 56 65 -/
noncomputable def F1191_L0 (t1 : D) (t5 : D) (p7 : D × Hp) (ds : List D) (h_1 : Hp) : Option Out :=
    (some ((nth 0 ds) : D)).bind fun t21 =>
    (some (t1 : D)).bind fun t22 =>
    (dLenT tab ty1154 t22).bind fun t23 =>
    (dBin tab .lss ty3 t21 t23).bind fun t24 =>
    dIf t24
      ((some (t1 : D)).bind fun t27 =>
    (some ((nth 0 ds) : D)).bind fun t28 =>
    (dIndexAddr tab ty1154 t27 t28).bind fun t29 =>
    (dLoad tab h_1 ty1153 t29).bind fun t30 =>
    (boxN 2 t30).bind fun t9 =>
    (some (.int .i64 0 : D)).bind fun t10 =>
    (some (.bool true : D)).bind fun t11 =>
    (some (.nils : D)).bind fun t12 =>
    (dLoad tab h_1 ty31 t5).bind fun t32 =>
    (dFieldAddr tab ty1153 1 t9).bind fun t33 =>
    (dLoad tab h_1 ty9 t33).bind fun t34 =>
    (R fn1196 [t32, t34] h_1).bind fun p35 =>
    (some (p35.1 : D)).bind fun t31 =>
    (dExtract 0 t31).bind fun t36 =>
    (dExtract 1 t31).bind fun t37 =>
    (some (t36 : D)).bind fun t13 =>
    (some (t37 : D)).bind fun t14 =>
    (dFieldAddr tab ty1153 0 t9).bind fun t38 =>
    (dLoad tab p35.2 ty3 t38).bind fun t39 =>
    (dBin tab .eql ty3 t39 (.int .i64 0)).bind fun t41 =>
    (some (t41 : D)).bind fun t40 =>
    (dIf t40
      ((dFieldAddr tab ty31 6 t5).bind fun t42 =>
      (dLoad tab p35.2 ty3 t42).bind fun t43 =>
      (some (t43 : D)).bind fun t10_1 =>
      some (.nrm, [t10_1, t11, t12, (nth 7 ds), (nth 8 ds), (nth 12 ds), (nth 13 ds), (nth 14 ds), (nth 15 ds)], p35.2))
      ((dBin tab .eql ty3 t39 (.int .i64 1)).bind fun t45 =>
      (some (t45 : D)).bind fun t44 =>
      (dIf t44
        ((some (t14 : D)).bind fun t46 =>
        (some (t46 : D)).bind fun t11_1 =>
        (dFieldAddr tab ty31 6 t5).bind fun t47 =>
        (dLoad tab p35.2 ty3 t47).bind fun t48 =>
        (some (t13 : D)).bind fun t49 =>
        (dBin tab .mul ty3 t48 t49).bind fun t50 =>
        (some (t50 : D)).bind fun t10_2 =>
        some (.nrm, [t10_2, t11_1, t12, (nth 7 ds), (nth 8 ds), (nth 13 ds), (nth 14 ds), (nth 15 ds)], p35.2))
        ((dBin tab .eql ty3 t39 (.int .i64 2)).bind fun t52 =>
        (some (t52 : D)).bind fun t51 =>
        (dIf t51
          (some (.nrm, [t51], p35.2))
          ((dBin tab .eql ty3 t39 (.int .i64 3)).bind fun t53 =>
          (some (t53 : D)).bind fun t51_1 =>
          some (.nrm, [t51_1], p35.2))).bind fun r_1 =>
        toEnd r_1.1 ((dIf (nth 0 r_1.2.1)
          ((some (t13 : D)).bind fun t54 =>
          (some (t14 : D)).bind fun t55 =>
          (some (t54 : D)).bind fun t10_3 =>
          (some (t55 : D)).bind fun t11_2 =>
          some (.nrm, [t10_3, t11_2, t12, (nth 7 ds), (nth 8 ds), (nth 14 ds), (nth 15 ds)], r_1.2.2))
          ((dBin tab .eql ty3 t39 (.int .i64 4)).bind fun t57 =>
          (some (t57 : D)).bind fun t56 =>
          (dIf t56
            ((dLoad tab r_1.2.2 ty31 t5).bind fun t59 =>
            (dFieldAddr tab ty1153 1 t9).bind fun t60 =>
            (dLoad tab r_1.2.2 ty9 t60).bind fun t61 =>
            (R fn1197 [t59, t61] r_1.2.2).bind fun p62 =>
            (some (p62.1 : D)).bind fun t58 =>
            (dExtract 0 t58).bind fun t63 =>
            (dExtract 1 t58).bind fun t64 =>
            (some (t63 : D)).bind fun t15 =>
            (some (t64 : D)).bind fun t16 =>
            (some (t16 : D)).bind fun t65 =>
            (dIf t65
              ((some (t15 : D)).bind fun t66 =>
              (pLitF tab ty98 1 [0] [t66]).bind fun t67 =>
              (some (.int .i64 1 : D)).bind fun t10_4 =>
              (some (t67 : D)).bind fun t12_1 =>
              some (.nrm, [t10_4, t12_1], p62.2))
              (some (.nrm, [t10, t12], p62.2))).bind fun r_2 =>
            some (r_2.1, [(nth 0 r_2.2.1), (nth 1 r_2.2.1), t15, t16, t65], r_2.2.2))
            (some (.nrm, [t10, t12, (nth 7 ds), (nth 8 ds), (nth 15 ds)], r_1.2.2))).bind fun r_3 =>
          some (r_3.1, [(nth 0 r_3.2.1), t11, (nth 1 r_3.2.1), (nth 2 r_3.2.1), (nth 3 r_3.2.1), t56, (nth 4 r_3.2.1)], r_3.2.2))).bind fun r_4 =>
        some (r_4.1, [(nth 0 r_4.2.1), (nth 1 r_4.2.1), (nth 2 r_4.2.1), (nth 3 r_4.2.1), (nth 4 r_4.2.1), (nth 0 r_1.2.1), (nth 5 r_4.2.1), (nth 6 r_4.2.1)], r_4.2.2)) fun x => some (x, [t10, t11, t12, (nth 7 ds), (nth 8 ds), (nth 0 r_1.2.1), (nth 14 ds), (nth 15 ds)], r_1.2.2))).bind fun r_5 =>
      some (r_5.1, [(nth 0 r_5.2.1), (nth 1 r_5.2.1), (nth 2 r_5.2.1), (nth 3 r_5.2.1), (nth 4 r_5.2.1), t44, (nth 5 r_5.2.1), (nth 6 r_5.2.1), (nth 7 r_5.2.1)], r_5.2.2))).bind fun r_6 =>
    toEnd (unblk 2 r_6.1) ((dFieldAddr tab ty1168 1 p7.1).bind fun t68 =>
    (dLoad tab r_6.2.2 ty82 t68).bind fun t69 =>
    (some ((nth 0 r_6.2.1) : D)).bind fun t70 =>
    (pLitF tab ty82 1 [0] [t70]).bind fun t71 =>
    (dAppend tab r_6.2.2 ty82 ty82 t69 t71).bind fun p72 =>
    (dFieldAddr tab ty1168 2 p7.1).bind fun t73 =>
    (dLoad tab p72.2 ty1165 t73).bind fun t74 =>
    (some ((nth 1 r_6.2.1) : D)).bind fun t75 =>
    (pLitF tab ty1165 1 [0] [t75]).bind fun t76 =>
    (dAppend tab p72.2 ty1165 ty1165 t74 t76).bind fun p77 =>
    (dFieldAddr tab ty1168 3 p7.1).bind fun t78 =>
    (dLoad tab p77.2 ty1166 t78).bind fun t79 =>
    (some ((nth 2 r_6.2.1) : D)).bind fun t80 =>
    (pLitF tab ty1166 1 [0] [t80]).bind fun t81 =>
    (dAppend tab p77.2 ty1166 ty1166 t79 t81).bind fun p82 =>
    (dFieldAddr tab ty1168 1 p7.1).bind fun t83 =>
    ((dStore tab p82.2 ty82 t83 p72.1).bind fun h' => some ((.und : D), h')).bind fun p916 =>
    (dFieldAddr tab ty1168 2 p7.1).bind fun t84 =>
    ((dStore tab p916.2 ty1165 t84 p77.1).bind fun h' => some ((.und : D), h')).bind fun p918 =>
    chk (dLoad tab r_6.2.2 ty1165 t73 = some t74)
    (chk (dLoad tab r_6.2.2 ty1166 t78 = some t79)
    (chk (dLoad tab p72.2 ty1166 t78 = some t79)
    ((dFieldAddr tab ty1168 3 p7.1).bind fun t85 =>
    ((dStore tab p918.2 ty1166 t85 p82.1).bind fun h' => some ((.und : D), h')).bind fun p920 =>
    (some ((nth 0 ds) : D)).bind fun t25 =>
    (dBin tab .add ty3 t25 (.int .i64 1)).bind fun t26 =>
    (some (t26 : D)).bind fun t8_1 =>
    some (.nrm, [t8_1, t9, (nth 0 r_6.2.1), (nth 1 r_6.2.1), (nth 2 r_6.2.1), t13, t14, (nth 3 r_6.2.1), (nth 4 r_6.2.1), t24, t39, t40, (nth 5 r_6.2.1), (nth 6 r_6.2.1), (nth 7 r_6.2.1), (nth 8 r_6.2.1)], p920.2))))) fun x_1 => toEnd (unblk 1 x_1) ((some ((nth 0 ds) : D)).bind fun t25_1 =>
    (dBin tab .add ty3 t25_1 (.int .i64 1)).bind fun t26_1 =>
    (some (t26_1 : D)).bind fun t8_2 =>
    some (.nrm, [t8_2, t9, (nth 0 r_6.2.1), (nth 1 r_6.2.1), (nth 2 r_6.2.1), t13, t14, (nth 3 r_6.2.1), (nth 4 r_6.2.1), t24, t39, t40, (nth 5 r_6.2.1), (nth 6 r_6.2.1), (nth 7 r_6.2.1), (nth 8 r_6.2.1)], r_6.2.2)) fun x_2 => some (x_2, [(nth 0 ds), t9, (nth 0 r_6.2.1), (nth 1 r_6.2.1), (nth 2 r_6.2.1), t13, t14, (nth 3 r_6.2.1), (nth 4 r_6.2.1), t24, t39, t40, (nth 5 r_6.2.1), (nth 6 r_6.2.1), (nth 7 r_6.2.1), (nth 8 r_6.2.1)], r_6.2.2))
      (some ((.ext 0), [(nth 0 ds), (nth 1 ds), (nth 2 ds), (nth 3 ds), (nth 4 ds), (nth 5 ds), (nth 6 ds), (nth 7 ds), (nth 8 ds), t24, (nth 10 ds), (nth 11 ds), (nth 12 ds), (nth 13 ds), (nth 14 ds), (nth 15 ds)], h_1))
noncomputable def F1191 (t0 : D) (t1 : D) (t2 : D) (h : Hp) : Option (D × Hp) :=
  (pBoxF t2).bind fun t5 =>
  (some ((.ptr h.length 0 0 : D), dNew h ty1168 4 [[.nils, .nils, .nils, .nils]])).bind fun p6 =>
  (some (t0 : D)).bind fun t17 =>
  (dLoad tab p6.2 ty31 t5).bind fun t18 =>
  (R fn1195 [t17, t18] p6.2).bind fun p19 =>
  (dBuild tab ty1168 [0] [p19.1]).bind fun t20 =>
  (some ((.ptr p19.2.length 0 0 : D), dNew p19.2 ty1168 4 [[.nils, .nils, .nils, .nils]])).bind fun p7 =>
  ((dStore tab p7.2 ty1168 p7.1 t20).bind fun h' => some ((.und : D), h')).bind fun p905 =>
  (some (.int .i64 0 : D)).bind fun t8 =>
  ((loopW (F1191_L0 t1 t5 p7) [t8, .any, .any, .any, .any, .any, .any, .any, .any, .any, .any, .any, .any, .any, .any, .any] p905.2).bind fun r =>
    some ((unblk 0 r.1), [(nth 0 r.2.1), (nth 1 r.2.1), (nth 2 r.2.1), (nth 3 r.2.1), (nth 4 r.2.1), (nth 5 r.2.1), (nth 6 r.2.1), (nth 7 r.2.1), (nth 8 r.2.1), (nth 9 r.2.1), (nth 10 r.2.1), (nth 11 r.2.1), (nth 12 r.2.1), (nth 13 r.2.1), (nth 14 r.2.1), (nth 15 r.2.1)], r.2.2)).bind fun r_7 =>
  toEnd r_7.1 ((dLoad tab r_7.2.2 ty1168 p7.1).bind fun t86 =>
  ((dStore tab r_7.2.2 ty1168 p6.1 t86).bind fun h' => some ((.und : D), h')).bind fun p901 =>
  ((some (p6.1 : D)).bind fun p => (dLoad tab p901.2 ty1168 p).bind fun d => (some ([] : List D)).bind fun ds => some (d :: ds)).bind fun ds => scope h p901.2 (mkRes ds)) fun x_3 => exEnd x_3 (((some (p6.1 : D)).bind fun p => (dLoad tab r_7.2.2 ty1168 p).bind fun d => (some ([] : List D)).bind fun ds => some (d :: ds)).bind fun ds => scope h r_7.2.2 (mkRes ds))
theorem e1191 (t0 : D) (t1 : D) (t2 : D) (h : Hp) : R fn1191 [t0, t1, t2] h = F1191 t0 t1 t2 h :=
  (run_fn (X := X) (F := Fs) (fi := i41) (by kernel_rfl) _ _).trans (by kernel_rfl)
/-- a loop: slots 9 34 -/
noncomputable def F1192_L1 (t0 : D) (t1 : D) (t3 : D) (ds_1 : List D) (h_2 : Hp) : Option Out :=
    (some ((nth 0 ds_1) : D)).bind fun t18 =>
    (some (t1 : D)).bind fun t19 =>
    (dBin tab .gtr ty3 t18 t19).bind fun t20 =>
    (some (t20 : D)).bind fun t21 =>
    (gd t21 true (some (t3 : D))).bind fun t22 =>
    (gd t21 true (some (t0 : D))).bind fun t23 =>
    (gd t21 true (some ((nth 0 ds_1) : D))).bind fun t24 =>
    (gd t21 true (dIndexAddr tab ty1144 t23 t24)).bind fun t25 =>
    (gd t21 true (dLoad tab h_2 ty1146 t25)).bind fun t26 =>
    (gd t21 true (some (t0 : D))).bind fun t27 =>
    (gd t21 true (some ((nth 0 ds_1) : D))).bind fun t28 =>
    (gd t21 true (dBin tab .sub ty3 t28 (.int .i64 1))).bind fun t29 =>
    (gd t21 true (dIndexAddr tab ty1144 t27 t29)).bind fun t30 =>
    (gd t21 true (dLoad tab h_2 ty1146 t30)).bind fun t31 =>
    (gdW t21 true h_2 (callV R t22 [t26, t31] h_2)).bind fun p32 =>
    (gd t21 true (dBin tab .lss ty3 p32.1 (.int .i64 0))).bind fun t33 =>
    (dPick t21 t33 (.bool false)).bind fun t34 =>
    dIf t34
      ((some (t0 : D)).bind fun t37 =>
    (some ((nth 0 ds_1) : D)).bind fun t38 =>
    (some (t0 : D)).bind fun t39 =>
    (some ((nth 0 ds_1) : D)).bind fun t40 =>
    (dBin tab .sub ty3 t40 (.int .i64 1)).bind fun t41 =>
    (some (t0 : D)).bind fun t42 =>
    (some ((nth 0 ds_1) : D)).bind fun t43 =>
    (dBin tab .sub ty3 t43 (.int .i64 1)).bind fun t44 =>
    (dIndexAddr tab ty1144 t42 t44).bind fun t45 =>
    (dLoad tab p32.2 ty1146 t45).bind fun t46 =>
    (some (t0 : D)).bind fun t47 =>
    (some ((nth 0 ds_1) : D)).bind fun t48 =>
    (dIndexAddr tab ty1144 t47 t48).bind fun t49 =>
    (dLoad tab p32.2 ty1146 t49).bind fun t50 =>
    (dIndexAddr tab ty1144 t37 t38).bind fun t51 =>
    ((dStore tab p32.2 ty1146 t51 t46).bind fun h' => some ((.und : D), h')).bind fun p915 =>
    (dIndexAddr tab ty1144 t39 t41).bind fun t52 =>
    ((dStore tab p915.2 ty1146 t52 t50).bind fun h' => some ((.und : D), h')).bind fun p917 =>
    (some ((nth 0 ds_1) : D)).bind fun t35 =>
    (dBin tab .sub ty3 t35 (.int .i64 1)).bind fun t36 =>
    (some (t36 : D)).bind fun t9_1 =>
    some (.nrm, [t9_1, t34], p917.2))
      (some ((.ext 2), [(nth 0 ds_1), t34], p32.2))
/-- a loop: slots 8 9 14 34 -/
noncomputable def F1192_L0 (t0 : D) (t1 : D) (t2 : D) (t3 : D) (ds : List D) (h_1 : Hp) : Option Out :=
    (some ((nth 0 ds) : D)).bind fun t12 =>
    (some (t2 : D)).bind fun t13 =>
    (dBin tab .lss ty3 t12 t13).bind fun t14 =>
    dIf t14
      ((some ((nth 0 ds) : D)).bind fun t17 =>
    (some (t17 : D)).bind fun t9 =>
    ((loopW (F1192_L1 t0 t1 t3) [t9, (nth 3 ds)] h_1).bind fun r_1 =>
      some ((unblk 2 r_1.1), [(nth 0 r_1.2.1), (nth 1 r_1.2.1)], r_1.2.2)).bind fun r_2 =>
    toEnd (unblk 1 r_2.1) ((some ((nth 0 ds) : D)).bind fun t15 =>
    (dBin tab .add ty3 t15 (.int .i64 1)).bind fun t16 =>
    (some (t16 : D)).bind fun t8_1 =>
    some (.nrm, [t8_1, (nth 0 r_2.2.1), t14, (nth 1 r_2.2.1)], r_2.2.2)) fun x => some (x, [(nth 0 ds), (nth 0 r_2.2.1), t14, (nth 1 r_2.2.1)], r_2.2.2))
      (some ((.ext 0), [(nth 0 ds), (nth 1 ds), t14, (nth 3 ds)], h_1))
noncomputable def F1192 (t0 : D) (t1 : D) (t2 : D) (t3 : D) (h : Hp) : Option (D × Hp) :=
  (some (t1 : D)).bind fun t10 =>
  (dBin tab .add ty3 t10 (.int .i64 1)).bind fun t11 =>
  (some (t11 : D)).bind fun t8 =>
  ((loopW (F1192_L0 t0 t1 t2 t3) [t8, .any, .any, .any] h).bind fun r =>
    some ((unblk 0 r.1), [(nth 0 r.2.1), (nth 1 r.2.1), (nth 2 r.2.1), (nth 3 r.2.1)], r.2.2)).bind fun r_3 =>
  exEnd r_3.1 ((some ([] : List D)).bind fun ds => some (mkRes ds, r_3.2.2))
theorem e1192 (t0 : D) (t1 : D) (t2 : D) (t3 : D) (h : Hp) : R fn1192 [t0, t1, t2, t3] h = F1192 t0 t1 t2 t3 h :=
  (run_fn (X := X) (F := Fs) (fi := i42) (by kernel_rfl) _ _).trans (by kernel_rfl)
/-- a loop: slots 20 21 23 151 171 -/
noncomputable def F1193_L0 (a0 : D) (a4 : D) (t22 : D) (ds : List D) (h_3 : Hp) : Option Out :=
    (some ((nth 0 ds) : D)).bind fun t149 =>
    (some ((nth 1 ds) : D)).bind fun t150 =>
    (dBin tab .lss ty3 t149 t150).bind fun t151 =>
    dIf t151
      ((some ((nth 0 ds) : D)).bind fun t152 =>
    (some ((nth 1 ds) : D)).bind fun t153 =>
    (dBin tab .add ty3 t152 t153).bind fun t154 =>
    (dConv tab ty3 ty134 t154).bind fun t155 =>
    (dBin tab .shr ty134 t155 (.int .u64 1)).bind fun t156 =>
    (dConv tab ty134 ty3 t156).bind fun t157 =>
    (some (t157 : D)).bind fun t23 =>
    (some (a4 : D)).bind fun t158 =>
    (some (a0 : D)).bind fun t159 =>
    (some (t22 : D)).bind fun t160 =>
    (some (t23 : D)).bind fun t161 =>
    (dBin tab .sub ty3 t160 t161).bind fun t162 =>
    (dIndexAddr tab ty1144 t159 t162).bind fun t163 =>
    (dLoad tab h_3 ty1146 t163).bind fun t164 =>
    (some (a0 : D)).bind fun t165 =>
    (some (t23 : D)).bind fun t166 =>
    (dIndexAddr tab ty1144 t165 t166).bind fun t167 =>
    (dLoad tab h_3 ty1146 t167).bind fun t168 =>
    (callV R t158 [t164, t168] h_3).bind fun p169 =>
    (dBin tab .lss ty3 p169.1 (.int .i64 0)).bind fun t170 =>
    (dUn .not t170).bind fun t171 =>
    (dIf t171
      ((some (t23 : D)).bind fun t172 =>
      (dBin tab .add ty3 t172 (.int .i64 1)).bind fun t173 =>
      (some (t173 : D)).bind fun t20_3 =>
      some (.nrm, [t20_3, (nth 1 ds)], p169.2))
      ((some (t23 : D)).bind fun t174 =>
      (some (t174 : D)).bind fun t21_3 =>
      some (.nrm, [(nth 0 ds), t21_3], p169.2))).bind fun r_2 =>
    some ((unblk 9 r_2.1), [(nth 0 r_2.2.1), (nth 1 r_2.2.1), t23, t151, t171], r_2.2.2))
      (some ((.ext 8), [(nth 0 ds), (nth 1 ds), (nth 2 ds), t151, (nth 4 ds)], h_3))
/-- the rest -/
noncomputable def F1193_R1 (a0 : D) (a1 : D) (a2 : D) (a3 : D) (a4 : D) (h_2 : Hp) : Option (D × Hp) :=
    (some (a1 : D)).bind fun t129 =>
  (some (a3 : D)).bind fun t130 =>
  (dBin tab .add ty3 t129 t130).bind fun t131 =>
  (dConv tab ty3 ty134 t131).bind fun t132 =>
  (dBin tab .shr ty134 t132 (.int .u64 1)).bind fun t133 =>
  (dConv tab ty134 ty3 t133).bind fun t134 =>
  (some (t134 : D)).bind fun t18 =>
  (some (t18 : D)).bind fun t135 =>
  (some (a2 : D)).bind fun t136 =>
  (dBin tab .add ty3 t135 t136).bind fun t137 =>
  (some (t137 : D)).bind fun t19 =>
  (some (.int .i64 0 : D)).bind fun t20 =>
  (some (.int .i64 0 : D)).bind fun t21 =>
  (some (a2 : D)).bind fun t138 =>
  (some (t18 : D)).bind fun t139 =>
  (dBin tab .gtr ty3 t138 t139).bind fun t140 =>
  (dIf t140
    ((some (t19 : D)).bind fun t141 =>
    (some (a3 : D)).bind fun t142 =>
    (dBin tab .sub ty3 t141 t142).bind fun t143 =>
    (some (t143 : D)).bind fun t20_1 =>
    (some (t18 : D)).bind fun t144 =>
    (some (t144 : D)).bind fun t21_1 =>
    some (.nrm, [t20_1, t21_1], h_2))
    ((some (a1 : D)).bind fun t145 =>
    (some (t145 : D)).bind fun t20_2 =>
    (some (a2 : D)).bind fun t146 =>
    (some (t146 : D)).bind fun t21_2 =>
    some (.nrm, [t20_2, t21_2], h_2))).bind fun r =>
  toEnd r.1 ((some (t19 : D)).bind fun t147 =>
  (dBin tab .sub ty3 t147 (.int .i64 1)).bind fun t148 =>
  (some (t148 : D)).bind fun t22 =>
  ((loopW (F1193_L0 a0 a4 t22) [(nth 0 r.2.1), (nth 1 r.2.1), .any, .any, .any] r.2.2).bind fun r_1 =>
    some ((unblk 8 r_1.1), [(nth 0 r_1.2.1), (nth 1 r_1.2.1), (nth 2 r_1.2.1), (nth 3 r_1.2.1), (nth 4 r_1.2.1)], r_1.2.2)).bind fun r_3 =>
  toEnd r_3.1 ((some (t19 : D)).bind fun t175 =>
  (some ((nth 0 r_3.2.1) : D)).bind fun t176 =>
  (dBin tab .sub ty3 t175 t176).bind fun t177 =>
  (some (t177 : D)).bind fun t24 =>
  (some ((nth 0 r_3.2.1) : D)).bind fun t178 =>
  (some (a2 : D)).bind fun t179 =>
  (dBin tab .lss ty3 t178 t179).bind fun t180 =>
  (some (t180 : D)).bind fun t181 =>
  (gd t181 true (some (a2 : D))).bind fun t182 =>
  (gd t181 true (some (t24 : D))).bind fun t183 =>
  (gd t181 true (dBin tab .lss ty3 t182 t183)).bind fun t184 =>
  (dPick t181 t184 (.bool false)).bind fun t185 =>
  (dIf t185
    ((some (a0 : D)).bind fun t186 =>
    (some ((nth 0 r_3.2.1) : D)).bind fun t187 =>
    (some (a2 : D)).bind fun t188 =>
    (some (t24 : D)).bind fun t189 =>
    (some (a4 : D)).bind fun t190 =>
    (R fn1198 [t186, t187, t188, t189, t190] r_3.2.2).bind fun p191 =>
    some (.nrm, ([] : List D), p191.2))
    (some (.nrm, ([] : List D), r_3.2.2))).bind fun r_4 =>
  toEnd r_4.1 ((some (a1 : D)).bind fun t192 =>
  (some ((nth 0 r_3.2.1) : D)).bind fun t193 =>
  (dBin tab .lss ty3 t192 t193).bind fun t194 =>
  (some (t194 : D)).bind fun t195 =>
  (gd t195 true (some ((nth 0 r_3.2.1) : D))).bind fun t196 =>
  (gd t195 true (some (t18 : D))).bind fun t197 =>
  (gd t195 true (dBin tab .lss ty3 t196 t197)).bind fun t198 =>
  (dPick t195 t198 (.bool false)).bind fun t199 =>
  (dIf t199
    ((some (a0 : D)).bind fun t200 =>
    (some (a1 : D)).bind fun t201 =>
    (some ((nth 0 r_3.2.1) : D)).bind fun t202 =>
    (some (t18 : D)).bind fun t203 =>
    (some (a4 : D)).bind fun t204 =>
    (R fn1193 [t200, t201, t202, t203, t204] r_4.2.2).bind fun p205 =>
    some (.nrm, ([] : List D), p205.2))
    (some (.nrm, ([] : List D), r_4.2.2))).bind fun r_5 =>
  toEnd r_5.1 ((some (t18 : D)).bind fun t206 =>
  (some (t24 : D)).bind fun t207 =>
  (dBin tab .lss ty3 t206 t207).bind fun t208 =>
  (some (t208 : D)).bind fun t209 =>
  (gd t209 true (some (t24 : D))).bind fun t210 =>
  (gd t209 true (some (a3 : D))).bind fun t211 =>
  (gd t209 true (dBin tab .lss ty3 t210 t211)).bind fun t212 =>
  (dPick t209 t212 (.bool false)).bind fun t213 =>
  (dIf t213
    ((some (a0 : D)).bind fun t214 =>
    (some (t18 : D)).bind fun t215 =>
    (some (t24 : D)).bind fun t216 =>
    (some (a3 : D)).bind fun t217 =>
    (some (a4 : D)).bind fun t218 =>
    (R fn1193 [t214, t215, t216, t217, t218] r_5.2.2).bind fun p219 =>
    some (.nrm, ([] : List D), p219.2))
    (some (.nrm, ([] : List D), r_5.2.2))).bind fun r_6 =>
  exEnd r_6.1 ((some ([] : List D)).bind fun ds => some (mkRes ds, r_6.2.2))) fun x_3 => exEnd x_3 ((some ([] : List D)).bind fun ds => some (mkRes ds, r_5.2.2))) fun x_2 => exEnd x_2 ((some ([] : List D)).bind fun ds => some (mkRes ds, r_4.2.2))) fun x_1 => exEnd x_1 ((some ([] : List D)).bind fun ds => some (mkRes ds, r_3.2.2))) fun x => exEnd x ((some ([] : List D)).bind fun ds => some (mkRes ds, r.2.2))
/-- a loop: slots 14 15 16 85 103 -/
noncomputable def F1193_L1 (a0 : D) (a2 : D) (a4 : D) (ds_1 : List D) (h_4 : Hp) : Option Out :=
    (some ((nth 0 ds_1) : D)).bind fun t83 =>
    (some ((nth 1 ds_1) : D)).bind fun t84 =>
    (dBin tab .lss ty3 t83 t84).bind fun t85 =>
    dIf t85
      ((some ((nth 0 ds_1) : D)).bind fun t86 =>
    (some ((nth 1 ds_1) : D)).bind fun t87 =>
    (dBin tab .add ty3 t86 t87).bind fun t88 =>
    (dConv tab ty3 ty134 t88).bind fun t89 =>
    (dBin tab .shr ty134 t89 (.int .u64 1)).bind fun t90 =>
    (dConv tab ty134 ty3 t90).bind fun t91 =>
    (some (t91 : D)).bind fun t16 =>
    (some (a4 : D)).bind fun t92 =>
    (some (a0 : D)).bind fun t93 =>
    (some (a2 : D)).bind fun t94 =>
    (dIndexAddr tab ty1144 t93 t94).bind fun t95 =>
    (dLoad tab h_4 ty1146 t95).bind fun t96 =>
    (some (a0 : D)).bind fun t97 =>
    (some (t16 : D)).bind fun t98 =>
    (dIndexAddr tab ty1144 t97 t98).bind fun t99 =>
    (dLoad tab h_4 ty1146 t99).bind fun t100 =>
    (callV R t92 [t96, t100] h_4).bind fun p101 =>
    (dBin tab .lss ty3 p101.1 (.int .i64 0)).bind fun t102 =>
    (dUn .not t102).bind fun t103 =>
    (dIf t103
      ((some (t16 : D)).bind fun t104 =>
      (dBin tab .add ty3 t104 (.int .i64 1)).bind fun t105 =>
      (some (t105 : D)).bind fun t14_1 =>
      some (.nrm, [t14_1, (nth 1 ds_1)], p101.2))
      ((some (t16 : D)).bind fun t106 =>
      (some (t106 : D)).bind fun t15_1 =>
      some (.nrm, [(nth 0 ds_1), t15_1], p101.2))).bind fun r_8 =>
    some ((unblk 5 r_8.1), [(nth 0 r_8.2.1), (nth 1 r_8.2.1), t16, t85, t103], r_8.2.2))
      (some ((.ext 4), [(nth 0 ds_1), (nth 1 ds_1), (nth 2 ds_1), t85, (nth 4 ds_1)], h_4))
/-- a loop: slots 17 110 -/
noncomputable def F1193_L2 (a0 : D) (r_9 : Out) (ds_2 : List D) (h_5 : Hp) : Option Out :=
    (some ((nth 0 ds_2) : D)).bind fun t108 =>
    (some ((nth 0 r_9.2.1) : D)).bind fun t109 =>
    (dBin tab .gtr ty3 t108 t109).bind fun t110 =>
    dIf t110
      ((some (a0 : D)).bind fun t113 =>
    (some ((nth 0 ds_2) : D)).bind fun t114 =>
    (some (a0 : D)).bind fun t115 =>
    (some ((nth 0 ds_2) : D)).bind fun t116 =>
    (dBin tab .sub ty3 t116 (.int .i64 1)).bind fun t117 =>
    (some (a0 : D)).bind fun t118 =>
    (some ((nth 0 ds_2) : D)).bind fun t119 =>
    (dBin tab .sub ty3 t119 (.int .i64 1)).bind fun t120 =>
    (dIndexAddr tab ty1144 t118 t120).bind fun t121 =>
    (dLoad tab h_5 ty1146 t121).bind fun t122 =>
    (some (a0 : D)).bind fun t123 =>
    (some ((nth 0 ds_2) : D)).bind fun t124 =>
    (dIndexAddr tab ty1144 t123 t124).bind fun t125 =>
    (dLoad tab h_5 ty1146 t125).bind fun t126 =>
    (dIndexAddr tab ty1144 t113 t114).bind fun t127 =>
    ((dStore tab h_5 ty1146 t127 t122).bind fun h' => some ((.und : D), h')).bind fun p915 =>
    (dIndexAddr tab ty1144 t115 t117).bind fun t128 =>
    ((dStore tab p915.2 ty1146 t128 t126).bind fun h' => some ((.und : D), h')).bind fun p917 =>
    (some ((nth 0 ds_2) : D)).bind fun t111 =>
    (dBin tab .sub ty3 t111 (.int .i64 1)).bind fun t112 =>
    (some (t112 : D)).bind fun t17_1 =>
    some (.nrm, [t17_1, t110], p917.2))
      (some ((.ext 6), [(nth 0 ds_2), t110], h_5))
/-- the rest -/
noncomputable def F1193_R0 (a0 : D) (a1 : D) (a2 : D) (a3 : D) (a4 : D) (h_1 : Hp) : Option (D × Hp) :=
    (some (a3 : D)).bind fun t77 =>
  (some (a2 : D)).bind fun t78 =>
  (dBin tab .sub ty3 t77 t78).bind fun t79 =>
  (dBin tab .eql ty3 t79 (.int .i64 1)).bind fun t80 =>
  dIf t80
    ((some (a1 : D)).bind fun t81 =>
    (some (t81 : D)).bind fun t14 =>
    (some (a2 : D)).bind fun t82 =>
    (some (t82 : D)).bind fun t15 =>
    ((loopW (F1193_L1 a0 a2 a4) [t14, t15, .any, .any, .any] h_1).bind fun r_7 =>
      some ((unblk 4 r_7.1), [(nth 0 r_7.2.1), (nth 1 r_7.2.1), (nth 2 r_7.2.1), (nth 3 r_7.2.1), (nth 4 r_7.2.1)], r_7.2.2)).bind fun r_9 =>
    toEnd r_9.1 ((some (a2 : D)).bind fun t107 =>
    (some (t107 : D)).bind fun t17 =>
    ((loopW (F1193_L2 a0 r_9) [t17, .any] r_9.2.2).bind fun r_10 =>
      some ((unblk 6 r_10.1), [(nth 0 r_10.2.1), (nth 1 r_10.2.1)], r_10.2.2)).bind fun r_11 =>
    toEnd r_11.1 ((some ([] : List D)).bind fun ds => some (mkRes ds, r_11.2.2)) fun x_5 => toEnd x_5 (F1193_R1 a0 a1 a2 a3 a4 r_11.2.2) fun x_6 => exEnd x_6 ((some ([] : List D)).bind fun ds => some (mkRes ds, r_11.2.2))) fun x_4 => toEnd x_4 (F1193_R1 a0 a1 a2 a3 a4 r_9.2.2) fun x_7 => exEnd x_7 ((some ([] : List D)).bind fun ds => some (mkRes ds, r_9.2.2)))
    (F1193_R1 a0 a1 a2 a3 a4 h_1)
/-- a loop: slots 10 11 12 33 50 -/
noncomputable def F1193_L3 (t0 : D) (t1 : D) (t4 : D) (ds_3 : List D) (h_6 : Hp) : Option Out :=
    (some ((nth 0 ds_3) : D)).bind fun t31 =>
    (some ((nth 1 ds_3) : D)).bind fun t32 =>
    (dBin tab .lss ty3 t31 t32).bind fun t33 =>
    dIf t33
      ((some ((nth 0 ds_3) : D)).bind fun t34 =>
    (some ((nth 1 ds_3) : D)).bind fun t35 =>
    (dBin tab .add ty3 t34 t35).bind fun t36 =>
    (dConv tab ty3 ty134 t36).bind fun t37 =>
    (dBin tab .shr ty134 t37 (.int .u64 1)).bind fun t38 =>
    (dConv tab ty134 ty3 t38).bind fun t39 =>
    (some (t39 : D)).bind fun t12 =>
    (some (t4 : D)).bind fun t40 =>
    (some (t0 : D)).bind fun t41 =>
    (some (t12 : D)).bind fun t42 =>
    (dIndexAddr tab ty1144 t41 t42).bind fun t43 =>
    (dLoad tab h_6 ty1146 t43).bind fun t44 =>
    (some (t0 : D)).bind fun t45 =>
    (some (t1 : D)).bind fun t46 =>
    (dIndexAddr tab ty1144 t45 t46).bind fun t47 =>
    (dLoad tab h_6 ty1146 t47).bind fun t48 =>
    (callV R t40 [t44, t48] h_6).bind fun p49 =>
    (dBin tab .lss ty3 p49.1 (.int .i64 0)).bind fun t50 =>
    (dIf t50
      ((some (t12 : D)).bind fun t51 =>
      (dBin tab .add ty3 t51 (.int .i64 1)).bind fun t52 =>
      (some (t52 : D)).bind fun t10_1 =>
      some (.nrm, [t10_1, (nth 1 ds_3)], p49.2))
      ((some (t12 : D)).bind fun t53 =>
      (some (t53 : D)).bind fun t11_1 =>
      some (.nrm, [(nth 0 ds_3), t11_1], p49.2))).bind fun r_13 =>
    some ((unblk 1 r_13.1), [(nth 0 r_13.2.1), (nth 1 r_13.2.1), t12, t33, t50], r_13.2.2))
      (some ((.ext 0), [(nth 0 ds_3), (nth 1 ds_3), (nth 2 ds_3), t33, (nth 4 ds_3)], h_6))
/-- a loop: slots 13 58 -/
noncomputable def F1193_L4 (t0 : D) (r_14 : Out) (ds_4 : List D) (h_7 : Hp) : Option Out :=
    (some ((nth 0 ds_4) : D)).bind fun t55 =>
    (some ((nth 0 r_14.2.1) : D)).bind fun t56 =>
    (dBin tab .sub ty3 t56 (.int .i64 1)).bind fun t57 =>
    (dBin tab .lss ty3 t55 t57).bind fun t58 =>
    dIf t58
      ((some (t0 : D)).bind fun t61 =>
    (some ((nth 0 ds_4) : D)).bind fun t62 =>
    (some (t0 : D)).bind fun t63 =>
    (some ((nth 0 ds_4) : D)).bind fun t64 =>
    (dBin tab .add ty3 t64 (.int .i64 1)).bind fun t65 =>
    (some (t0 : D)).bind fun t66 =>
    (some ((nth 0 ds_4) : D)).bind fun t67 =>
    (dBin tab .add ty3 t67 (.int .i64 1)).bind fun t68 =>
    (dIndexAddr tab ty1144 t66 t68).bind fun t69 =>
    (dLoad tab h_7 ty1146 t69).bind fun t70 =>
    (some (t0 : D)).bind fun t71 =>
    (some ((nth 0 ds_4) : D)).bind fun t72 =>
    (dIndexAddr tab ty1144 t71 t72).bind fun t73 =>
    (dLoad tab h_7 ty1146 t73).bind fun t74 =>
    (dIndexAddr tab ty1144 t61 t62).bind fun t75 =>
    ((dStore tab h_7 ty1146 t75 t70).bind fun h' => some ((.und : D), h')).bind fun p915_1 =>
    (dIndexAddr tab ty1144 t63 t65).bind fun t76 =>
    ((dStore tab p915_1.2 ty1146 t76 t74).bind fun h' => some ((.und : D), h')).bind fun p917_1 =>
    (some ((nth 0 ds_4) : D)).bind fun t59 =>
    (dBin tab .add ty3 t59 (.int .i64 1)).bind fun t60 =>
    (some (t60 : D)).bind fun t13_1 =>
    some (.nrm, [t13_1, t58], p917_1.2))
      (some ((.ext 2), [(nth 0 ds_4), t58], h_7))
noncomputable def F1193 (t0 : D) (t1 : D) (t2 : D) (t3 : D) (t4 : D) (h : Hp) : Option (D × Hp) :=
  (some (t2 : D)).bind fun t25 =>
  (some (t1 : D)).bind fun t26 =>
  (dBin tab .sub ty3 t25 t26).bind fun t27 =>
  (dBin tab .eql ty3 t27 (.int .i64 1)).bind fun t28 =>
  dIf t28
    ((some (t2 : D)).bind fun t29 =>
    (some (t29 : D)).bind fun t10 =>
    (some (t3 : D)).bind fun t30 =>
    (some (t30 : D)).bind fun t11 =>
    ((loopW (F1193_L3 t0 t1 t4) [t10, t11, .any, .any, .any] h).bind fun r_12 =>
      some ((unblk 0 r_12.1), [(nth 0 r_12.2.1), (nth 1 r_12.2.1), (nth 2 r_12.2.1), (nth 3 r_12.2.1), (nth 4 r_12.2.1)], r_12.2.2)).bind fun r_14 =>
    toEnd r_14.1 ((some (t1 : D)).bind fun t54 =>
    (some (t54 : D)).bind fun t13 =>
    ((loopW (F1193_L4 t0 r_14) [t13, .any] r_14.2.2).bind fun r_15 =>
      some ((unblk 2 r_15.1), [(nth 0 r_15.2.1), (nth 1 r_15.2.1)], r_15.2.2)).bind fun r_16 =>
    toEnd r_16.1 ((some ([] : List D)).bind fun ds => some (mkRes ds, r_16.2.2)) fun x_9 => toEnd x_9 (F1193_R0 t0 t1 t2 t3 t4 r_16.2.2) fun x_10 => exEnd x_10 ((some ([] : List D)).bind fun ds => some (mkRes ds, r_16.2.2))) fun x_8 => toEnd x_8 (F1193_R0 t0 t1 t2 t3 t4 r_14.2.2) fun x_11 => exEnd x_11 ((some ([] : List D)).bind fun ds => some (mkRes ds, r_14.2.2)))
    (F1193_R0 t0 t1 t2 t3 t4 h)
theorem e1193 (t0 : D) (t1 : D) (t2 : D) (t3 : D) (t4 : D) (h : Hp) : R fn1193 [t0, t1, t2, t3, t4] h = F1193 t0 t1 t2 t3 t4 h :=
  (run_fn (X := X) (F := Fs) (fi := i43) (by kernel_rfl) _ _).trans (by kernel_rfl)
noncomputable def F91 (t0 : D) (t1 : D) (h : Hp) : Option (D × Hp) :=
  (some (.int .i64 0 : D)).bind fun t4 =>
  (some (t0 : D)).bind fun t7 =>
  (R fn100 [t7] h).bind fun p8 =>
  (some (p8.1 : D)).bind fun t5 =>
  (some (t1 : D)).bind fun t9 =>
  (R fn100 [t9] p8.2).bind fun p10 =>
  (some (p10.1 : D)).bind fun t6 =>
  (some (t5 : D)).bind fun t11 =>
  dIf t11
    ((some (t6 : D)).bind fun t12 =>
    dIf t12
      ((some (.int .i64 0 : D)).bind fun t4_1 =>
      ((some (t4_1 : D)).bind fun d => (some ([] : List D)).bind fun ds => some (d :: ds)).bind fun ds => some (mkRes ds, p10.2))
      ((some (.int .i64 (-1) : D)).bind fun t4_2 =>
    ((some (t4_2 : D)).bind fun d => (some ([] : List D)).bind fun ds => some (d :: ds)).bind fun ds => some (mkRes ds, p10.2)))
    ((some (t6 : D)).bind fun t13 =>
  dIf t13
    ((some (.int .i64 1 : D)).bind fun t4_3 =>
    ((some (t4_3 : D)).bind fun d => (some ([] : List D)).bind fun ds => some (d :: ds)).bind fun ds => some (mkRes ds, p10.2))
    ((some (t0 : D)).bind fun t14 =>
  (some (t1 : D)).bind fun t15 =>
  (dBin tab .lss ty9 t14 t15).bind fun t16 =>
  dIf t16
    ((some (.int .i64 (-1) : D)).bind fun t4_4 =>
    ((some (t4_4 : D)).bind fun d => (some ([] : List D)).bind fun ds => some (d :: ds)).bind fun ds => some (mkRes ds, p10.2))
    ((some (t0 : D)).bind fun t17 =>
  (some (t1 : D)).bind fun t18 =>
  (dBin tab .gtr ty9 t17 t18).bind fun t19 =>
  dIf t19
    ((some (.int .i64 1 : D)).bind fun t4_5 =>
    ((some (t4_5 : D)).bind fun d => (some ([] : List D)).bind fun ds => some (d :: ds)).bind fun ds => some (mkRes ds, p10.2))
    ((some (.int .i64 0 : D)).bind fun t4_6 =>
  ((some (t4_6 : D)).bind fun d => (some ([] : List D)).bind fun ds => some (d :: ds)).bind fun ds => some (mkRes ds, p10.2)))))
theorem e91 (t0 : D) (t1 : D) (h : Hp) : R fn91 [t0, t1] h = F91 t0 t1 h :=
  (run_fn (X := X) (F := Fs) (fi := i44) (by kernel_rfl) _ _).trans (by kernel_rfl)
/-- a loop: slots 3 4 10 -/
noncomputable def F96_L0 (t0 : D) (ds : List D) (h_1 : Hp) : Option Out :=
    (some ((nth 1 ds) : D)).bind fun t9 =>
    (dBin tab .gtr ty3 t9 (.int .i64 0)).bind fun t10 =>
    dIf t10
      ((some ((nth 0 ds) : D)).bind fun t13 =>
    (pLitF tab ty98 5 [0, 1, 2, 3, 4] [.str [32], .str [32], .str [44, 32], .str [61], .str []]).bind fun t14 =>
    (some (t0 : D)).bind fun t15 =>
    (R fn24 [t15, .int .i64 5] h_1).bind fun p16 =>
    (dIndexAddr tab ty98 t14 p16.1).bind fun t17 =>
    (dLoad tab p16.2 ty9 t17).bind fun t18 =>
    (some (t0 : D)).bind fun t19 =>
    (R fn102 [t19] p16.2).bind fun p20 =>
    (dBin tab .add ty9 t18 p20.1).bind fun t21 =>
    (dBin tab .add ty9 t13 t21).bind fun t22 =>
    chk (dLoad tab p20.2 ty9 t17 = some t18)
    ((some (t22 : D)).bind fun t3_1 =>
    (some ((nth 1 ds) : D)).bind fun t11 =>
    (dBin tab .sub ty3 t11 (.int .i64 1)).bind fun t12 =>
    (some (t12 : D)).bind fun t4_1 =>
    some (.nrm, [t3_1, t4_1, t10], p20.2)))
      (some ((.ext 0), [(nth 0 ds), (nth 1 ds), t10], h_1))
noncomputable def F96 (t0 : D) (h : Hp) : Option (D × Hp) :=
  (some (.str [] : D)).bind fun t2 =>
  (some (t0 : D)).bind fun t5 =>
  (R fn102 [t5] h).bind fun p6 =>
  (some (p6.1 : D)).bind fun t3 =>
  (some (t0 : D)).bind fun t7 =>
  (R fn24 [t7, .int .i64 4] p6.2).bind fun p8 =>
  (some (p8.1 : D)).bind fun t4 =>
  ((loopW (F96_L0 t0) [t3, t4, .any] p8.2).bind fun r =>
    some ((unblk 0 r.1), [(nth 0 r.2.1), (nth 1 r.2.1), (nth 2 r.2.1)], r.2.2)).bind fun r_1 =>
  toEnd r_1.1 ((some ((nth 0 r_1.2.1) : D)).bind fun t23 =>
  (some (t23 : D)).bind fun t2_1 =>
  ((some (t2_1 : D)).bind fun d => (some ([] : List D)).bind fun ds => some (d :: ds)).bind fun ds => some (mkRes ds, r_1.2.2)) fun x => exEnd x (((some (t2 : D)).bind fun d => (some ([] : List D)).bind fun ds => some (d :: ds)).bind fun ds => some (mkRes ds, r_1.2.2))
theorem e96 (t0 : D) (h : Hp) : R fn96 [t0] h = F96 t0 h :=
  (run_fn (X := X) (F := Fs) (fi := i45) (by kernel_rfl) _ _).trans (by kernel_rfl)
noncomputable def F35 (t0 : D) (h : Hp) : Option (D × Hp) :=
  (some (.int .i64 0 : D)).bind fun t2 =>
  (some (t0 : D)).bind fun t3 =>
  (R fn24 [t3, .int .i64 4] h).bind fun p4 =>
  (dBin tab .eql ty3 p4.1 (.int .i64 0)).bind fun t6 =>
  (some (t6 : D)).bind fun t5 =>
  dIf t5
    ((some (t0 : D)).bind fun t7 =>
    (R fn24 [t7, .int .i64 40] p4.2).bind fun p8 =>
    (dBin tab .mul ty3 p8.1 (.int .i64 86400000)).bind fun t9 =>
    (some (t9 : D)).bind fun t2_1 =>
    ((some (t2_1 : D)).bind fun d => (some ([] : List D)).bind fun ds => some (d :: ds)).bind fun ds => some (mkRes ds, p8.2))
    ((dBin tab .eql ty3 p4.1 (.int .i64 1)).bind fun t11 =>
    (some (t11 : D)).bind fun t10 =>
    dIf t10
      ((some (t0 : D)).bind fun t12 =>
      (R fn24 [t12, .int .i64 3] p4.2).bind fun p13 =>
      (dBin tab .mul ty3 p13.1 (.int .i64 86400000)).bind fun t14 =>
      (dBin tab .sub ty3 (.int .i64 253402300799999) t14).bind fun t15 =>
      (some (t15 : D)).bind fun t2_2 =>
      ((some (t2_2 : D)).bind fun d => (some ([] : List D)).bind fun ds => some (d :: ds)).bind fun ds => some (mkRes ds, p13.2))
      ((some (t0 : D)).bind fun t16 =>
  (R fn24 [t16, .int .i64 60] p4.2).bind fun p17 =>
  (dBin tab .add ty3 (.int .i64 1000) p17.1).bind fun t18 =>
  (some (t18 : D)).bind fun t2_3 =>
  ((some (t2_3 : D)).bind fun d => (some ([] : List D)).bind fun ds => some (d :: ds)).bind fun ds => some (mkRes ds, p17.2)))
theorem e35 (t0 : D) (h : Hp) : R fn35 [t0] h = F35 t0 h :=
  (run_fn (X := X) (F := Fs) (fi := i46) (by kernel_rfl) _ _).trans (by kernel_rfl)
noncomputable def F97 (t0 : D) (h : Hp) : Option (D × Hp) :=
  (some (.int .i64 0 : D)).bind fun t2 =>
  (pLitF tab ty82 6 [0, 1, 2, 3, 4, 5] [.int .i64 1, .int .i64 1, .int .i64 2, .int .i64 5, .int .i64 10, .int .i64 5040]).bind fun t3 =>
  (some (t0 : D)).bind fun t4 =>
  (R fn24 [t4, .int .i64 6] h).bind fun p5 =>
  (dIndexAddr tab ty82 t3 p5.1).bind fun t6 =>
  (dLoad tab p5.2 ty3 t6).bind fun t7 =>
  (some (t7 : D)).bind fun t2_1 =>
  ((some (t2_1 : D)).bind fun d => (some ([] : List D)).bind fun ds => some (d :: ds)).bind fun ds => some (mkRes ds, p5.2)
theorem e97 (t0 : D) (h : Hp) : R fn97 [t0] h = F97 t0 h :=
  (run_fn (X := X) (F := Fs) (fi := i47) (by kernel_rfl) _ _).trans (by kernel_rfl)
/-- a loop: slots 3 5 10 15 -/
noncomputable def F98_L0 (t0 : D) (t4 : D) (ds : List D) (h_1 : Hp) : Option Out :=
    (some ((nth 1 ds) : D)).bind fun t7 =>
    (some (t4 : D)).bind fun t8 =>
    (dLenT tab ty98 t8).bind fun t9 =>
    (dBin tab .lss ty3 t7 t9).bind fun t10 =>
    dIf t10
      ((some (t0 : D)).bind fun t13 =>
    (R fn24 [t13, .int .i64 3] h_1).bind fun p14 =>
    (dBin tab .eql ty3 p14.1 (.int .i64 1)).bind fun t15 =>
    (dIf t15
      ((some ((nth 0 ds) : D)).bind fun t16 =>
      (some (t4 : D)).bind fun t17 =>
      (some ((nth 1 ds) : D)).bind fun t18 =>
      (dIndexAddr tab ty98 t17 t18).bind fun t19 =>
      (dLoad tab p14.2 ty9 t19).bind fun t20 =>
      (some (t0 : D)).bind fun t21 =>
      (R fn33 [t21] p14.2).bind fun p22 =>
      (dBuild tab ty109 [0, 1] [t20, p22.1]).bind fun t23 =>
      (pLitF tab ty29 1 [0] [t23]).bind fun t24 =>
      (dAppend tab p22.2 ty29 ty29 t16 t24).bind fun p25 =>
      chk (dLoad tab p22.2 ty9 t19 = some t20)
      ((some (p25.1 : D)).bind fun t3_1 =>
      some (.nrm, [t3_1], p25.2)))
      (some (.nrm, [(nth 0 ds)], p14.2))).bind fun r_1 =>
    toEnd (unblk 1 r_1.1) ((some ((nth 1 ds) : D)).bind fun t11 =>
    (dBin tab .add ty3 t11 (.int .i64 1)).bind fun t12 =>
    (some (t12 : D)).bind fun t5_1 =>
    some (.nrm, [(nth 0 r_1.2.1), t5_1, t10, t15], r_1.2.2)) fun x => some (x, [(nth 0 r_1.2.1), (nth 1 ds), t10, t15], r_1.2.2))
      (some ((.ext 0), [(nth 0 ds), (nth 1 ds), t10, (nth 3 ds)], h_1))
noncomputable def F98 (t0 : D) (h : Hp) : Option (D × Hp) :=
  (some (.nils : D)).bind fun t2 =>
  (some (.nils : D)).bind fun t3 =>
  (pLitF tab ty98 4 [0, 1, 2, 3] [.str [99, 111, 100, 101], .str [108, 101, 118, 101, 108], .str [109, 115], .str [117, 115, 101, 114]]).bind fun t6 =>
  (some (t6 : D)).bind fun t4 =>
  (some (.int .i64 0 : D)).bind fun t5 =>
  ((loopW (F98_L0 t0 t4) [t3, t5, .any, .any] h).bind fun r =>
    some ((unblk 0 r.1), [(nth 0 r.2.1), (nth 1 r.2.1), (nth 2 r.2.1), (nth 3 r.2.1)], r.2.2)).bind fun r_2 =>
  toEnd r_2.1 ((some ((nth 0 r_2.2.1) : D)).bind fun t26 =>
  (some (t26 : D)).bind fun t2_1 =>
  ((some (t2_1 : D)).bind fun d => (some ([] : List D)).bind fun ds => some (d :: ds)).bind fun ds => scope h r_2.2.2 (mkRes ds)) fun x_1 => exEnd x_1 (((some (t2 : D)).bind fun d => (some ([] : List D)).bind fun ds => some (d :: ds)).bind fun ds => scope h r_2.2.2 (mkRes ds))
theorem e98 (t0 : D) (h : Hp) : R fn98 [t0] h = F98 t0 h :=
  (run_fn (X := X) (F := Fs) (fi := i48) (by kernel_rfl) _ _).trans (by kernel_rfl)
/-- a loop: slots 8 9 10 11 18 42 43 53 76 82 105 111 -/
noncomputable def F1194_L0 (t0 : D) (t4 : D) (t5 : D) (p7 : D × Hp) (ds : List D) (h_1 : Hp) : Option Out :=
    (some ((nth 0 ds) : D)).bind fun t15 =>
    (some (t0 : D)).bind fun t16 =>
    (dLenT tab ty1154 t16).bind fun t17 =>
    (dBin tab .lss ty3 t15 t17).bind fun t18 =>
    dIf t18
      ((dFieldAddr tab ty1168 1 t4).bind fun t21 =>
    (dLoad tab h_1 ty82 t21).bind fun t22 =>
    (some ((nth 0 ds) : D)).bind fun t23 =>
    (dIndexAddr tab ty82 t22 t23).bind fun t24 =>
    (dLoad tab h_1 ty3 t24).bind fun t25 =>
    (dFieldAddr tab ty1168 2 t4).bind fun t26 =>
    (dLoad tab h_1 ty1165 t26).bind fun t27 =>
    (some ((nth 0 ds) : D)).bind fun t28 =>
    (dIndexAddr tab ty1165 t27 t28).bind fun t29 =>
    (dLoad tab h_1 ty4 t29).bind fun t30 =>
    (some (t30 : D)).bind fun t31 =>
    (gd t31 false (dFieldAddr tab ty1168 2 t5)).bind fun t32 =>
    (gd t31 false (dLoad tab h_1 ty1165 t32)).bind fun t33 =>
    (gd t31 false (some ((nth 0 ds) : D))).bind fun t34 =>
    (gd t31 false (dIndexAddr tab ty1165 t33 t34)).bind fun t35 =>
    (gd t31 false (dLoad tab h_1 ty4 t35)).bind fun t36 =>
    (dPick t31 (.bool true) t36).bind fun t37 =>
    (some (t25 : D)).bind fun t9 =>
    (some (t37 : D)).bind fun t10 =>
    (some (.nils : D)).bind fun t11 =>
    (some (t0 : D)).bind fun t38 =>
    (some ((nth 0 ds) : D)).bind fun t39 =>
    (dIndexAddr tab ty1154 t38 t39).bind fun t40 =>
    (dFieldAddr tab ty1153 0 t40).bind fun t41 =>
    (dLoad tab h_1 ty3 t41).bind fun t42 =>
    (dBin tab .eql ty3 t42 (.int .i64 0)).bind fun t44 =>
    (some (t44 : D)).bind fun t43 =>
    (dIf t43
      (some (.nrm, [t43], h_1))
      ((dBin tab .eql ty3 t42 (.int .i64 1)).bind fun t45 =>
      (some (t45 : D)).bind fun t43_1 =>
      some (.nrm, [t43_1], h_1))).bind fun r_1 =>
    toEnd r_1.1 ((dIf (nth 0 r_1.2.1)
      ((some (t9 : D)).bind fun t46 =>
      (dFieldAddr tab ty1168 1 t5).bind fun t47 =>
      (dLoad tab r_1.2.2 ty82 t47).bind fun t48 =>
      (some ((nth 0 ds) : D)).bind fun t49 =>
      (dIndexAddr tab ty82 t48 t49).bind fun t50 =>
      (dLoad tab r_1.2.2 ty3 t50).bind fun t51 =>
      (dBin tab .add ty3 t46 t51).bind fun t52 =>
      (some (t52 : D)).bind fun t9_1 =>
      some (.nrm, [t9_1, t11, (nth 7 ds), (nth 8 ds), (nth 9 ds), (nth 10 ds), (nth 11 ds)], r_1.2.2))
      ((dBin tab .eql ty3 t42 (.int .i64 2)).bind fun t54 =>
      (some (t54 : D)).bind fun t53 =>
      (dIf t53
        ((dFieldAddr tab ty1168 2 t4).bind fun t55 =>
        (dLoad tab r_1.2.2 ty1165 t55).bind fun t56 =>
        (some ((nth 0 ds) : D)).bind fun t57 =>
        (dIndexAddr tab ty1165 t56 t57).bind fun t58 =>
        (dLoad tab r_1.2.2 ty4 t58).bind fun t59 =>
        (dUn .not t59).bind fun t60 =>
        (some (t60 : D)).bind fun t61 =>
        (gd t61 false (dFieldAddr tab ty1168 2 t5)).bind fun t62 =>
        (gd t61 false (dLoad tab r_1.2.2 ty1165 t62)).bind fun t63 =>
        (gd t61 false (some ((nth 0 ds) : D))).bind fun t64 =>
        (gd t61 false (dIndexAddr tab ty1165 t63 t64)).bind fun t65 =>
        (gd t61 false (dLoad tab r_1.2.2 ty4 t65)).bind fun t66 =>
        (gd t61 false (some (t66 : D))).bind fun t67 =>
        (gd t67 true (dFieldAddr tab ty1168 1 t5)).bind fun t68 =>
        (gd t67 true (dLoad tab r_1.2.2 ty82 t68)).bind fun t69 =>
        (gd t67 true (some ((nth 0 ds) : D))).bind fun t70 =>
        (gd t67 true (dIndexAddr tab ty82 t69 t70)).bind fun t71 =>
        (gd t67 true (dLoad tab r_1.2.2 ty3 t71)).bind fun t72 =>
        (gd t67 true (some (t9 : D))).bind fun t73 =>
        (gd t67 true (dBin tab .lss ty3 t72 t73)).bind fun t74 =>
        (gd t61 false (dPick t67 t74 (.bool false))).bind fun t75 =>
        (dPick t61 (.bool true) t75).bind fun t76 =>
        (dIf t76
          ((dFieldAddr tab ty1168 1 t5).bind fun t77 =>
          (dLoad tab r_1.2.2 ty82 t77).bind fun t78 =>
          (some ((nth 0 ds) : D)).bind fun t79 =>
          (dIndexAddr tab ty82 t78 t79).bind fun t80 =>
          (dLoad tab r_1.2.2 ty3 t80).bind fun t81 =>
          (some (t81 : D)).bind fun t9_2 =>
          some (.nrm, [t9_2], r_1.2.2))
          (some (.nrm, [t9], r_1.2.2))).bind fun r_2 =>
        some (r_2.1, [(nth 0 r_2.2.1), t11, t76, (nth 9 ds), (nth 10 ds), (nth 11 ds)], r_2.2.2))
        ((dBin tab .eql ty3 t42 (.int .i64 3)).bind fun t83 =>
        (some (t83 : D)).bind fun t82 =>
        (dIf t82
          ((dFieldAddr tab ty1168 2 t4).bind fun t84 =>
          (dLoad tab r_1.2.2 ty1165 t84).bind fun t85 =>
          (some ((nth 0 ds) : D)).bind fun t86 =>
          (dIndexAddr tab ty1165 t85 t86).bind fun t87 =>
          (dLoad tab r_1.2.2 ty4 t87).bind fun t88 =>
          (dUn .not t88).bind fun t89 =>
          (some (t89 : D)).bind fun t90 =>
          (gd t90 false (dFieldAddr tab ty1168 2 t5)).bind fun t91 =>
          (gd t90 false (dLoad tab r_1.2.2 ty1165 t91)).bind fun t92 =>
          (gd t90 false (some ((nth 0 ds) : D))).bind fun t93 =>
          (gd t90 false (dIndexAddr tab ty1165 t92 t93)).bind fun t94 =>
          (gd t90 false (dLoad tab r_1.2.2 ty4 t94)).bind fun t95 =>
          (gd t90 false (some (t95 : D))).bind fun t96 =>
          (gd t96 true (dFieldAddr tab ty1168 1 t5)).bind fun t97 =>
          (gd t96 true (dLoad tab r_1.2.2 ty82 t97)).bind fun t98 =>
          (gd t96 true (some ((nth 0 ds) : D))).bind fun t99 =>
          (gd t96 true (dIndexAddr tab ty82 t98 t99)).bind fun t100 =>
          (gd t96 true (dLoad tab r_1.2.2 ty3 t100)).bind fun t101 =>
          (gd t96 true (some (t9 : D))).bind fun t102 =>
          (gd t96 true (dBin tab .gtr ty3 t101 t102)).bind fun t103 =>
          (gd t90 false (dPick t96 t103 (.bool false))).bind fun t104 =>
          (dPick t90 (.bool true) t104).bind fun t105 =>
          (dIf t105
            ((dFieldAddr tab ty1168 1 t5).bind fun t106 =>
            (dLoad tab r_1.2.2 ty82 t106).bind fun t107 =>
            (some ((nth 0 ds) : D)).bind fun t108 =>
            (dIndexAddr tab ty82 t107 t108).bind fun t109 =>
            (dLoad tab r_1.2.2 ty3 t109).bind fun t110 =>
            (some (t110 : D)).bind fun t9_3 =>
            some (.nrm, [t9_3], r_1.2.2))
            (some (.nrm, [t9], r_1.2.2))).bind fun r_3 =>
          some (r_3.1, [(nth 0 r_3.2.1), t11, t105, (nth 11 ds)], r_3.2.2))
          ((dBin tab .eql ty3 t42 (.int .i64 4)).bind fun t112 =>
          (some (t112 : D)).bind fun t111 =>
          (dIf t111
            ((dFieldAddr tab ty1168 3 t4).bind fun t113 =>
            (dLoad tab r_1.2.2 ty1166 t113).bind fun t114 =>
            (some ((nth 0 ds) : D)).bind fun t115 =>
            (dIndexAddr tab ty1166 t114 t115).bind fun t116 =>
            (dLoad tab r_1.2.2 ty98 t116).bind fun t117 =>
            (dAppend tab r_1.2.2 ty98 ty98 (.nils) t117).bind fun p118 =>
            (dFieldAddr tab ty1168 3 t5).bind fun t119 =>
            (dLoad tab p118.2 ty1166 t119).bind fun t120 =>
            (some ((nth 0 ds) : D)).bind fun t121 =>
            (dIndexAddr tab ty1166 t120 t121).bind fun t122 =>
            (dLoad tab p118.2 ty98 t122).bind fun t123 =>
            (dAppend tab p118.2 ty98 ty98 p118.1 t123).bind fun p124 =>
            (R fn1199 [p124.1] p124.2).bind fun p125 =>
            chk (dLoad tab r_1.2.2 ty1166 t119 = some t120)
            (chk (dLoad tab r_1.2.2 ty98 t122 = some t123)
            ((some (p125.1 : D)).bind fun t11_1 =>
            (some (t11_1 : D)).bind fun t126 =>
            (dLenT tab ty98 t126).bind fun t127 =>
            (some (t127 : D)).bind fun t9_4 =>
            some (.nrm, [t9_4, t11_1], p125.2))))
            (some (.nrm, [t9, t11], r_1.2.2))).bind fun r_4 =>
          some (r_4.1, [(nth 0 r_4.2.1), (nth 1 r_4.2.1), (nth 10 ds), t111], r_4.2.2))).bind fun r_5 =>
        some (r_5.1, [(nth 0 r_5.2.1), (nth 1 r_5.2.1), (nth 8 ds), t82, (nth 2 r_5.2.1), (nth 3 r_5.2.1)], r_5.2.2))).bind fun r_6 =>
      some (r_6.1, [(nth 0 r_6.2.1), (nth 1 r_6.2.1), t53, (nth 2 r_6.2.1), (nth 3 r_6.2.1), (nth 4 r_6.2.1), (nth 5 r_6.2.1)], r_6.2.2))).bind fun r_7 =>
    toEnd (unblk 2 r_7.1) ((dFieldAddr tab ty1168 1 p7.1).bind fun t128 =>
    (dLoad tab r_7.2.2 ty82 t128).bind fun t129 =>
    (some ((nth 0 r_7.2.1) : D)).bind fun t130 =>
    (pLitF tab ty82 1 [0] [t130]).bind fun t131 =>
    (dAppend tab r_7.2.2 ty82 ty82 t129 t131).bind fun p132 =>
    (dFieldAddr tab ty1168 2 p7.1).bind fun t133 =>
    (dLoad tab p132.2 ty1165 t133).bind fun t134 =>
    (some (t10 : D)).bind fun t135 =>
    (pLitF tab ty1165 1 [0] [t135]).bind fun t136 =>
    (dAppend tab p132.2 ty1165 ty1165 t134 t136).bind fun p137 =>
    (dFieldAddr tab ty1168 3 p7.1).bind fun t138 =>
    (dLoad tab p137.2 ty1166 t138).bind fun t139 =>
    (some ((nth 1 r_7.2.1) : D)).bind fun t140 =>
    (pLitF tab ty1166 1 [0] [t140]).bind fun t141 =>
    (dAppend tab p137.2 ty1166 ty1166 t139 t141).bind fun p142 =>
    (dFieldAddr tab ty1168 1 p7.1).bind fun t143 =>
    ((dStore tab p142.2 ty82 t143 p132.1).bind fun h' => some ((.und : D), h')).bind fun p916 =>
    (dFieldAddr tab ty1168 2 p7.1).bind fun t144 =>
    ((dStore tab p916.2 ty1165 t144 p137.1).bind fun h' => some ((.und : D), h')).bind fun p918 =>
    chk (dLoad tab r_7.2.2 ty1165 t133 = some t134)
    (chk (dLoad tab r_7.2.2 ty1166 t138 = some t139)
    (chk (dLoad tab p132.2 ty1166 t138 = some t139)
    ((dFieldAddr tab ty1168 3 p7.1).bind fun t145 =>
    ((dStore tab p918.2 ty1166 t145 p142.1).bind fun h' => some ((.und : D), h')).bind fun p920 =>
    (some ((nth 0 ds) : D)).bind fun t19 =>
    (dBin tab .add ty3 t19 (.int .i64 1)).bind fun t20 =>
    (some (t20 : D)).bind fun t8_1 =>
    some (.nrm, [t8_1, (nth 0 r_7.2.1), t10, (nth 1 r_7.2.1), t18, t42, (nth 0 r_1.2.1), (nth 2 r_7.2.1), (nth 3 r_7.2.1), (nth 4 r_7.2.1), (nth 5 r_7.2.1), (nth 6 r_7.2.1)], p920.2))))) fun x_1 => toEnd (unblk 1 x_1) ((some ((nth 0 ds) : D)).bind fun t19_1 =>
    (dBin tab .add ty3 t19_1 (.int .i64 1)).bind fun t20_1 =>
    (some (t20_1 : D)).bind fun t8_2 =>
    some (.nrm, [t8_2, (nth 0 r_7.2.1), t10, (nth 1 r_7.2.1), t18, t42, (nth 0 r_1.2.1), (nth 2 r_7.2.1), (nth 3 r_7.2.1), (nth 4 r_7.2.1), (nth 5 r_7.2.1), (nth 6 r_7.2.1)], r_7.2.2)) fun x_2 => some (x_2, [(nth 0 ds), (nth 0 r_7.2.1), t10, (nth 1 r_7.2.1), t18, t42, (nth 0 r_1.2.1), (nth 2 r_7.2.1), (nth 3 r_7.2.1), (nth 4 r_7.2.1), (nth 5 r_7.2.1), (nth 6 r_7.2.1)], r_7.2.2)) fun x => toEnd (unblk 2 x) ((dFieldAddr tab ty1168 1 p7.1).bind fun t128_1 =>
    (dLoad tab r_1.2.2 ty82 t128_1).bind fun t129_1 =>
    (some (t9 : D)).bind fun t130_1 =>
    (pLitF tab ty82 1 [0] [t130_1]).bind fun t131_1 =>
    (dAppend tab r_1.2.2 ty82 ty82 t129_1 t131_1).bind fun p132_1 =>
    (dFieldAddr tab ty1168 2 p7.1).bind fun t133_1 =>
    (dLoad tab p132_1.2 ty1165 t133_1).bind fun t134_1 =>
    (some (t10 : D)).bind fun t135_1 =>
    (pLitF tab ty1165 1 [0] [t135_1]).bind fun t136_1 =>
    (dAppend tab p132_1.2 ty1165 ty1165 t134_1 t136_1).bind fun p137_1 =>
    (dFieldAddr tab ty1168 3 p7.1).bind fun t138_1 =>
    (dLoad tab p137_1.2 ty1166 t138_1).bind fun t139_1 =>
    (some (t11 : D)).bind fun t140_1 =>
    (pLitF tab ty1166 1 [0] [t140_1]).bind fun t141_1 =>
    (dAppend tab p137_1.2 ty1166 ty1166 t139_1 t141_1).bind fun p142_1 =>
    (dFieldAddr tab ty1168 1 p7.1).bind fun t143_1 =>
    ((dStore tab p142_1.2 ty82 t143_1 p132_1.1).bind fun h' => some ((.und : D), h')).bind fun p916_1 =>
    (dFieldAddr tab ty1168 2 p7.1).bind fun t144_1 =>
    ((dStore tab p916_1.2 ty1165 t144_1 p137_1.1).bind fun h' => some ((.und : D), h')).bind fun p918_1 =>
    chk (dLoad tab r_1.2.2 ty1165 t133_1 = some t134_1)
    (chk (dLoad tab r_1.2.2 ty1166 t138_1 = some t139_1)
    (chk (dLoad tab p132_1.2 ty1166 t138_1 = some t139_1)
    ((dFieldAddr tab ty1168 3 p7.1).bind fun t145_1 =>
    ((dStore tab p918_1.2 ty1166 t145_1 p142_1.1).bind fun h' => some ((.und : D), h')).bind fun p920_1 =>
    (some ((nth 0 ds) : D)).bind fun t19_2 =>
    (dBin tab .add ty3 t19_2 (.int .i64 1)).bind fun t20_2 =>
    (some (t20_2 : D)).bind fun t8_3 =>
    some (.nrm, [t8_3, t9, t10, t11, t18, t42, (nth 0 r_1.2.1), (nth 7 ds), (nth 8 ds), (nth 9 ds), (nth 10 ds), (nth 11 ds)], p920_1.2))))) fun x_3 => toEnd (unblk 1 x_3) ((some ((nth 0 ds) : D)).bind fun t19_3 =>
    (dBin tab .add ty3 t19_3 (.int .i64 1)).bind fun t20_3 =>
    (some (t20_3 : D)).bind fun t8_4 =>
    some (.nrm, [t8_4, t9, t10, t11, t18, t42, (nth 0 r_1.2.1), (nth 7 ds), (nth 8 ds), (nth 9 ds), (nth 10 ds), (nth 11 ds)], r_1.2.2)) fun x_4 => some (x_4, [(nth 0 ds), t9, t10, t11, t18, t42, (nth 0 r_1.2.1), (nth 7 ds), (nth 8 ds), (nth 9 ds), (nth 10 ds), (nth 11 ds)], r_1.2.2))
      (some ((.ext 0), [(nth 0 ds), (nth 1 ds), (nth 2 ds), (nth 3 ds), t18, (nth 5 ds), (nth 6 ds), (nth 7 ds), (nth 8 ds), (nth 9 ds), (nth 10 ds), (nth 11 ds)], h_1))
noncomputable def F1194 (t0 : D) (t1 : D) (t2 : D) (h : Hp) : Option (D × Hp) :=
  (pBoxF t1).bind fun t4 =>
  (pBoxF t2).bind fun t5 =>
  (some ((.ptr h.length 0 0 : D), dNew h ty1168 4 [[.nils, .nils, .nils, .nils]])).bind fun p6 =>
  (dFieldAddr tab ty1168 0 t4).bind fun t12 =>
  (dLoad tab p6.2 ty98 t12).bind fun t13 =>
  (dBuild tab ty1168 [0] [t13]).bind fun t14 =>
  (some ((.ptr p6.2.length 0 0 : D), dNew p6.2 ty1168 4 [[.nils, .nils, .nils, .nils]])).bind fun p7 =>
  ((dStore tab p7.2 ty1168 p7.1 t14).bind fun h' => some ((.und : D), h')).bind fun p904 =>
  (some (.int .i64 0 : D)).bind fun t8 =>
  ((loopW (F1194_L0 t0 t4 t5 p7) [t8, .any, .any, .any, .any, .any, .any, .any, .any, .any, .any, .any] p904.2).bind fun r =>
    some ((unblk 0 r.1), [(nth 0 r.2.1), (nth 1 r.2.1), (nth 2 r.2.1), (nth 3 r.2.1), (nth 4 r.2.1), (nth 5 r.2.1), (nth 6 r.2.1), (nth 7 r.2.1), (nth 8 r.2.1), (nth 9 r.2.1), (nth 10 r.2.1), (nth 11 r.2.1)], r.2.2)).bind fun r_8 =>
  toEnd r_8.1 ((dLoad tab r_8.2.2 ty1168 p7.1).bind fun t146 =>
  ((dStore tab r_8.2.2 ty1168 p6.1 t146).bind fun h' => some ((.und : D), h')).bind fun p901 =>
  ((some (p6.1 : D)).bind fun p => (dLoad tab p901.2 ty1168 p).bind fun d => (some ([] : List D)).bind fun ds => some (d :: ds)).bind fun ds => scope h p901.2 (mkRes ds)) fun x_5 => exEnd x_5 (((some (p6.1 : D)).bind fun p => (dLoad tab r_8.2.2 ty1168 p).bind fun d => (some ([] : List D)).bind fun ds => some (d :: ds)).bind fun ds => scope h r_8.2.2 (mkRes ds))
theorem e1194 (t0 : D) (t1 : D) (t2 : D) (h : Hp) : R fn1194 [t0, t1, t2] h = F1194 t0 t1 t2 h :=
  (run_fn (X := X) (F := Fs) (fi := i49) (by kernel_rfl) _ _).trans (by kernel_rfl)
end Go.Proofs.Yteglojieneaojaa
